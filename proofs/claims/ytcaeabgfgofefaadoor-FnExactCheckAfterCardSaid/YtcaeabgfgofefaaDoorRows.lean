/-
  NARROWER THAN 'FOR EVERY INPUT', by the rows' own cells (each row's printed sentence says how): FnExactHashCard: laid · FnExactSameCards: laid · FnExactCheckOfDeck: laid · FnExactTogetherOf: laid · FnExactIdleHoles: laid · FnExactValueIn: laid · FnExactCheckAnswer: laid · FnExactFirstFault: laid · FnExactExpectedFalse: laid · FnExactNearestCards: laid · FnExactHoleTally: laid · FnExactCheckAfter: laid.
  DERIVED. THE GIVEN ROWS OF THIS SEAT. 12 by the template 'for every input the law returns true; each argument reads behind the call as it read before'; 0 by the template 'total and deterministic' (their statements: YtcaeabgfgofefaaDoorTotals.lean).
  GIVEN WITH THE SEED: the statements are not yours to turn. If you find one false, say at which input.
  Laid BY PROGRAM, IN A SANDBOX (cutbox-rows.mjs): the forced cells as the released guide's own fill.sh prints them over the translation 7c0cf58729c5d732… (all of the seat's roots in one cut). By AI agents, Wed Nov 11 2026. No macro, syntax, notation, axiom, sorry.
-/
import Derived.Test.YtcaeabgfgofefaaDoorChecked
import GoSem.PinnedTables
import GoSem.Claim
import GoSem.ClaimJoined
import GoSem.ClaimMapViews
import Derived.JoinedTies
import Derived.KernelRfl
namespace Go.Proofs.YtcaeabgfgofefaaDoor
/- THE CELL 'sum', in the pinned program and in every row, IS THE sha256 OF THE DUMP (.gsa) THAT YtcaeabgfgofefaaDoorProg.lean LOADS. Nothing in Lean hashes anything: it is a label: what it is worth is what the hold of that sum in a sandbox is worth. -/
noncomputable def Tryd.pinned : Pinned := { name := "ytcaeabgfgofefaadoor", sum := "7c0cf58729c5d7320f8964160f4efeacfef48f3533bb96817dc7f7a5e0dcef5c", checked := Tryd.checked }
namespace Rows
def none {H : Type} : Left H := { results := [], args := [] }

/- WHAT THE LISTED PACKAGE-LEVEL VARIABLES READ AS WHEN THE CALL BEGINS. Each datum BY PROGRAM (the guide's laid-datum.mjs) off the statement by which the dump's own 'gosem.cut.vars' lays the variable. In a bare row this is a premise. The card (YtcaeabgfgofefaaDoorCards.lean) ties it to the program's text. -/
def laid_unicode_utf8_acceptRanges {H : Type} : DataW H := .agg [.agg [.lit (.int .u8 128), .lit (.int .u8 191)], .agg [.lit (.int .u8 160), .lit (.int .u8 191)], .agg [.lit (.int .u8 128), .lit (.int .u8 159)], .agg [.lit (.int .u8 144), .lit (.int .u8 191)], .agg [.lit (.int .u8 128), .lit (.int .u8 143)], .agg [.lit (.int .u8 0), .lit (.int .u8 0)], .agg [.lit (.int .u8 0), .lit (.int .u8 0)], .agg [.lit (.int .u8 0), .lit (.int .u8 0)], .agg [.lit (.int .u8 0), .lit (.int .u8 0)], .agg [.lit (.int .u8 0), .lit (.int .u8 0)], .agg [.lit (.int .u8 0), .lit (.int .u8 0)], .agg [.lit (.int .u8 0), .lit (.int .u8 0)], .agg [.lit (.int .u8 0), .lit (.int .u8 0)], .agg [.lit (.int .u8 0), .lit (.int .u8 0)], .agg [.lit (.int .u8 0), .lit (.int .u8 0)], .agg [.lit (.int .u8 0), .lit (.int .u8 0)]]
/-- One of Go's own tables, pinned by name: the form's constant. -/
def laid_unicode_utf8_first : DataW Unit := Go.Pinned.utf8First

/-- 'laws.FnExactHashCard': WHATEVER THE INPUT: true; the input reads as it did. -/
def fnExactHashCardSpec : ChangeSpec := { name := "fnExactHashCard", fn := fun _ => fun
  | [d] => { results := [.lit (.bool true)], args := [d] }
  | _ => none }
def fnExactHashCardRow : OpenClaim := { program := "ytcaeabgfgofefaadoor", sum := "7c0cf58729c5d7320f8964160f4efeacfef48f3533bb96817dc7f7a5e0dcef5c", func := "loop.example/g01261/laws.FnExactHashCard", spec := "fnExactHashCard", inPlace := ["internal/bytealg.IndexByteString", "internal/bytealg.IndexString"], unfollowed := true, recurses := true, named := ["unicode/utf8.first", "unicode/utf8.acceptRanges", "internal/bytealg.MaxLen"], apart := false, laid := [("unicode/utf8.acceptRanges", laid_unicode_utf8_acceptRanges), ("unicode/utf8.first", laid_unicode_utf8_first)] }
def FnExactHashCardSaid : Prop := fnExactHashCardRow.holds Tryd.pinned (OpenSpec.ofChange fnExactHashCardSpec)

/-- ITS FALSE NEIGHBOUR: 'it returns false'. Refute it at one input. -/
def fnExactHashCardWrong : ChangeSpec := { name := "fnExactHashCard", fn := fun _ => fun
  | [d] => { results := [.lit (.bool false)], args := [d] }
  | _ => none }
def FnExactHashCardWrongFalsely : Prop := fnExactHashCardRow.holds Tryd.pinned (OpenSpec.ofChange fnExactHashCardWrong)

/-- 'laws.FnExactSameCards': WHATEVER THE INPUT: true; the input reads as it did. -/
def fnExactSameCardsSpec : ChangeSpec := { name := "fnExactSameCards", fn := fun _ => fun
  | [d1, d2] => { results := [.lit (.bool true)], args := [d1, d2] }
  | _ => none }
def fnExactSameCardsRow : OpenClaim := { program := "ytcaeabgfgofefaadoor", sum := "7c0cf58729c5d7320f8964160f4efeacfef48f3533bb96817dc7f7a5e0dcef5c", func := "loop.example/g01261/laws.FnExactSameCards", spec := "fnExactSameCards", inPlace := ["internal/bytealg.IndexByteString", "internal/bytealg.IndexString"], unfollowed := true, recurses := true, named := ["unicode/utf8.first", "unicode/utf8.acceptRanges", "internal/bytealg.MaxLen"], apart := false, laid := [("unicode/utf8.acceptRanges", laid_unicode_utf8_acceptRanges), ("unicode/utf8.first", laid_unicode_utf8_first)] }
def FnExactSameCardsSaid : Prop := fnExactSameCardsRow.holds Tryd.pinned (OpenSpec.ofChange fnExactSameCardsSpec)

/-- ITS FALSE NEIGHBOUR: 'it returns false'. Refute it at one input. -/
def fnExactSameCardsWrong : ChangeSpec := { name := "fnExactSameCards", fn := fun _ => fun
  | [d1, d2] => { results := [.lit (.bool false)], args := [d1, d2] }
  | _ => none }
def FnExactSameCardsWrongFalsely : Prop := fnExactSameCardsRow.holds Tryd.pinned (OpenSpec.ofChange fnExactSameCardsWrong)

/-- 'laws.FnExactCheckOfDeck': WHATEVER THE INPUT: true; the input reads as it did. -/
def fnExactCheckOfDeckSpec : ChangeSpec := { name := "fnExactCheckOfDeck", fn := fun _ => fun
  | [d] => { results := [.lit (.bool true)], args := [d] }
  | _ => none }
def fnExactCheckOfDeckRow : OpenClaim := { program := "ytcaeabgfgofefaadoor", sum := "7c0cf58729c5d7320f8964160f4efeacfef48f3533bb96817dc7f7a5e0dcef5c", func := "loop.example/g01261/laws.FnExactCheckOfDeck", spec := "fnExactCheckOfDeck", inPlace := ["internal/bytealg.IndexByteString", "internal/bytealg.IndexString"], unfollowed := true, recurses := true, named := ["unicode/utf8.first", "unicode/utf8.acceptRanges", "internal/bytealg.MaxLen"], apart := false, laid := [("unicode/utf8.acceptRanges", laid_unicode_utf8_acceptRanges), ("unicode/utf8.first", laid_unicode_utf8_first)] }
def FnExactCheckOfDeckSaid : Prop := fnExactCheckOfDeckRow.holds Tryd.pinned (OpenSpec.ofChange fnExactCheckOfDeckSpec)

/-- ITS FALSE NEIGHBOUR: 'it returns false'. Refute it at one input. -/
def fnExactCheckOfDeckWrong : ChangeSpec := { name := "fnExactCheckOfDeck", fn := fun _ => fun
  | [d] => { results := [.lit (.bool false)], args := [d] }
  | _ => none }
def FnExactCheckOfDeckWrongFalsely : Prop := fnExactCheckOfDeckRow.holds Tryd.pinned (OpenSpec.ofChange fnExactCheckOfDeckWrong)

/-- 'laws.FnExactTogetherOf': WHATEVER THE INPUT: true; the input reads as it did. -/
def fnExactTogetherOfSpec : ChangeSpec := { name := "fnExactTogetherOf", fn := fun _ => fun
  | [d1, d2, d3] => { results := [.lit (.bool true)], args := [d1, d2, d3] }
  | _ => none }
def fnExactTogetherOfRow : OpenClaim := { program := "ytcaeabgfgofefaadoor", sum := "7c0cf58729c5d7320f8964160f4efeacfef48f3533bb96817dc7f7a5e0dcef5c", func := "loop.example/g01261/laws.FnExactTogetherOf", spec := "fnExactTogetherOf", inPlace := ["internal/bytealg.IndexByteString", "internal/bytealg.IndexString"], unfollowed := true, recurses := true, named := ["unicode/utf8.first", "unicode/utf8.acceptRanges", "internal/bytealg.MaxLen"], apart := false, laid := [("unicode/utf8.acceptRanges", laid_unicode_utf8_acceptRanges), ("unicode/utf8.first", laid_unicode_utf8_first)] }
def FnExactTogetherOfSaid : Prop := fnExactTogetherOfRow.holds Tryd.pinned (OpenSpec.ofChange fnExactTogetherOfSpec)

/-- ITS FALSE NEIGHBOUR: 'it returns false'. Refute it at one input. -/
def fnExactTogetherOfWrong : ChangeSpec := { name := "fnExactTogetherOf", fn := fun _ => fun
  | [d1, d2, d3] => { results := [.lit (.bool false)], args := [d1, d2, d3] }
  | _ => none }
def FnExactTogetherOfWrongFalsely : Prop := fnExactTogetherOfRow.holds Tryd.pinned (OpenSpec.ofChange fnExactTogetherOfWrong)

/-- 'laws.FnExactIdleHoles': WHATEVER THE INPUT: true; the input reads as it did. -/
def fnExactIdleHolesSpec : ChangeSpec := { name := "fnExactIdleHoles", fn := fun _ => fun
  | [d] => { results := [.lit (.bool true)], args := [d] }
  | _ => none }
def fnExactIdleHolesRow : OpenClaim := { program := "ytcaeabgfgofefaadoor", sum := "7c0cf58729c5d7320f8964160f4efeacfef48f3533bb96817dc7f7a5e0dcef5c", func := "loop.example/g01261/laws.FnExactIdleHoles", spec := "fnExactIdleHoles", inPlace := ["internal/bytealg.IndexByteString", "internal/bytealg.IndexString"], unfollowed := true, recurses := true, named := ["unicode/utf8.first", "unicode/utf8.acceptRanges", "internal/bytealg.MaxLen"], apart := false, laid := [("unicode/utf8.acceptRanges", laid_unicode_utf8_acceptRanges), ("unicode/utf8.first", laid_unicode_utf8_first)] }
def FnExactIdleHolesSaid : Prop := fnExactIdleHolesRow.holds Tryd.pinned (OpenSpec.ofChange fnExactIdleHolesSpec)

/-- ITS FALSE NEIGHBOUR: 'it returns false'. Refute it at one input. -/
def fnExactIdleHolesWrong : ChangeSpec := { name := "fnExactIdleHoles", fn := fun _ => fun
  | [d] => { results := [.lit (.bool false)], args := [d] }
  | _ => none }
def FnExactIdleHolesWrongFalsely : Prop := fnExactIdleHolesRow.holds Tryd.pinned (OpenSpec.ofChange fnExactIdleHolesWrong)

/-- 'laws.FnExactValueIn': WHATEVER THE INPUT: true; the input reads as it did. -/
def fnExactValueInSpec : ChangeSpec := { name := "fnExactValueIn", fn := fun _ => fun
  | [d1, d2] => { results := [.lit (.bool true)], args := [d1, d2] }
  | _ => none }
def fnExactValueInRow : OpenClaim := { program := "ytcaeabgfgofefaadoor", sum := "7c0cf58729c5d7320f8964160f4efeacfef48f3533bb96817dc7f7a5e0dcef5c", func := "loop.example/g01261/laws.FnExactValueIn", spec := "fnExactValueIn", inPlace := ["internal/bytealg.IndexByteString", "internal/bytealg.IndexString"], named := ["unicode/utf8.first", "unicode/utf8.acceptRanges", "internal/bytealg.MaxLen"], apart := false, laid := [("unicode/utf8.acceptRanges", laid_unicode_utf8_acceptRanges), ("unicode/utf8.first", laid_unicode_utf8_first)] }
def FnExactValueInSaid : Prop := fnExactValueInRow.holds Tryd.pinned (OpenSpec.ofChange fnExactValueInSpec)

/-- ITS FALSE NEIGHBOUR: 'it returns false'. Refute it at one input. -/
def fnExactValueInWrong : ChangeSpec := { name := "fnExactValueIn", fn := fun _ => fun
  | [d1, d2] => { results := [.lit (.bool false)], args := [d1, d2] }
  | _ => none }
def FnExactValueInWrongFalsely : Prop := fnExactValueInRow.holds Tryd.pinned (OpenSpec.ofChange fnExactValueInWrong)

/-- 'laws.FnExactCheckAnswer': WHATEVER THE INPUT: true; the input reads as it did. -/
def fnExactCheckAnswerSpec : ChangeSpec := { name := "fnExactCheckAnswer", fn := fun _ => fun
  | [d1, d2] => { results := [.lit (.bool true)], args := [d1, d2] }
  | _ => none }
def fnExactCheckAnswerRow : OpenClaim := { program := "ytcaeabgfgofefaadoor", sum := "7c0cf58729c5d7320f8964160f4efeacfef48f3533bb96817dc7f7a5e0dcef5c", func := "loop.example/g01261/laws.FnExactCheckAnswer", spec := "fnExactCheckAnswer", inPlace := ["internal/bytealg.IndexByteString", "internal/bytealg.IndexString"], unfollowed := true, recurses := true, named := ["unicode/utf8.first", "unicode/utf8.acceptRanges", "internal/bytealg.MaxLen"], apart := false, laid := [("unicode/utf8.acceptRanges", laid_unicode_utf8_acceptRanges), ("unicode/utf8.first", laid_unicode_utf8_first)] }
def FnExactCheckAnswerSaid : Prop := fnExactCheckAnswerRow.holds Tryd.pinned (OpenSpec.ofChange fnExactCheckAnswerSpec)

/-- ITS FALSE NEIGHBOUR: 'it returns false'. Refute it at one input. -/
def fnExactCheckAnswerWrong : ChangeSpec := { name := "fnExactCheckAnswer", fn := fun _ => fun
  | [d1, d2] => { results := [.lit (.bool false)], args := [d1, d2] }
  | _ => none }
def FnExactCheckAnswerWrongFalsely : Prop := fnExactCheckAnswerRow.holds Tryd.pinned (OpenSpec.ofChange fnExactCheckAnswerWrong)

/-- 'laws.FnExactFirstFault': WHATEVER THE INPUT: true; the input reads as it did. -/
def fnExactFirstFaultSpec : ChangeSpec := { name := "fnExactFirstFault", fn := fun _ => fun
  | [d1, d2] => { results := [.lit (.bool true)], args := [d1, d2] }
  | _ => none }
def fnExactFirstFaultRow : OpenClaim := { program := "ytcaeabgfgofefaadoor", sum := "7c0cf58729c5d7320f8964160f4efeacfef48f3533bb96817dc7f7a5e0dcef5c", func := "loop.example/g01261/laws.FnExactFirstFault", spec := "fnExactFirstFault", inPlace := ["internal/bytealg.IndexByteString", "internal/bytealg.IndexString"], unfollowed := true, recurses := true, named := ["unicode/utf8.first", "unicode/utf8.acceptRanges", "internal/bytealg.MaxLen"], apart := false, laid := [("unicode/utf8.acceptRanges", laid_unicode_utf8_acceptRanges), ("unicode/utf8.first", laid_unicode_utf8_first)] }
def FnExactFirstFaultSaid : Prop := fnExactFirstFaultRow.holds Tryd.pinned (OpenSpec.ofChange fnExactFirstFaultSpec)

/-- ITS FALSE NEIGHBOUR: 'it returns false'. Refute it at one input. -/
def fnExactFirstFaultWrong : ChangeSpec := { name := "fnExactFirstFault", fn := fun _ => fun
  | [d1, d2] => { results := [.lit (.bool false)], args := [d1, d2] }
  | _ => none }
def FnExactFirstFaultWrongFalsely : Prop := fnExactFirstFaultRow.holds Tryd.pinned (OpenSpec.ofChange fnExactFirstFaultWrong)

/-- 'laws.FnExactExpectedFalse': WHATEVER THE INPUT: true; the input reads as it did. -/
def fnExactExpectedFalseSpec : ChangeSpec := { name := "fnExactExpectedFalse", fn := fun _ => fun
  | [d1, d2, d3] => { results := [.lit (.bool true)], args := [d1, d2, d3] }
  | _ => none }
def fnExactExpectedFalseRow : OpenClaim := { program := "ytcaeabgfgofefaadoor", sum := "7c0cf58729c5d7320f8964160f4efeacfef48f3533bb96817dc7f7a5e0dcef5c", func := "loop.example/g01261/laws.FnExactExpectedFalse", spec := "fnExactExpectedFalse", inPlace := ["internal/bytealg.IndexByteString", "internal/bytealg.IndexString"], unfollowed := true, recurses := true, named := ["unicode/utf8.first", "unicode/utf8.acceptRanges", "internal/bytealg.MaxLen"], apart := false, laid := [("unicode/utf8.acceptRanges", laid_unicode_utf8_acceptRanges), ("unicode/utf8.first", laid_unicode_utf8_first)] }
def FnExactExpectedFalseSaid : Prop := fnExactExpectedFalseRow.holds Tryd.pinned (OpenSpec.ofChange fnExactExpectedFalseSpec)

/-- ITS FALSE NEIGHBOUR: 'it returns false'. Refute it at one input. -/
def fnExactExpectedFalseWrong : ChangeSpec := { name := "fnExactExpectedFalse", fn := fun _ => fun
  | [d1, d2, d3] => { results := [.lit (.bool false)], args := [d1, d2, d3] }
  | _ => none }
def FnExactExpectedFalseWrongFalsely : Prop := fnExactExpectedFalseRow.holds Tryd.pinned (OpenSpec.ofChange fnExactExpectedFalseWrong)

/-- 'laws.FnExactNearestCards': WHATEVER THE INPUT: true; the input reads as it did. -/
def fnExactNearestCardsSpec : ChangeSpec := { name := "fnExactNearestCards", fn := fun _ => fun
  | [d1, d2] => { results := [.lit (.bool true)], args := [d1, d2] }
  | _ => none }
def fnExactNearestCardsRow : OpenClaim := { program := "ytcaeabgfgofefaadoor", sum := "7c0cf58729c5d7320f8964160f4efeacfef48f3533bb96817dc7f7a5e0dcef5c", func := "loop.example/g01261/laws.FnExactNearestCards", spec := "fnExactNearestCards", inPlace := ["internal/bytealg.IndexByteString", "internal/bytealg.IndexString"], unfollowed := true, recurses := true, named := ["unicode/utf8.first", "unicode/utf8.acceptRanges", "internal/bytealg.MaxLen"], apart := false, laid := [("unicode/utf8.acceptRanges", laid_unicode_utf8_acceptRanges), ("unicode/utf8.first", laid_unicode_utf8_first)] }
def FnExactNearestCardsSaid : Prop := fnExactNearestCardsRow.holds Tryd.pinned (OpenSpec.ofChange fnExactNearestCardsSpec)

/-- ITS FALSE NEIGHBOUR: 'it returns false'. Refute it at one input. -/
def fnExactNearestCardsWrong : ChangeSpec := { name := "fnExactNearestCards", fn := fun _ => fun
  | [d1, d2] => { results := [.lit (.bool false)], args := [d1, d2] }
  | _ => none }
def FnExactNearestCardsWrongFalsely : Prop := fnExactNearestCardsRow.holds Tryd.pinned (OpenSpec.ofChange fnExactNearestCardsWrong)

/-- 'laws.FnExactHoleTally': WHATEVER THE INPUT: true; the input reads as it did. -/
def fnExactHoleTallySpec : ChangeSpec := { name := "fnExactHoleTally", fn := fun _ => fun
  | [d] => { results := [.lit (.bool true)], args := [d] }
  | _ => none }
def fnExactHoleTallyRow : OpenClaim := { program := "ytcaeabgfgofefaadoor", sum := "7c0cf58729c5d7320f8964160f4efeacfef48f3533bb96817dc7f7a5e0dcef5c", func := "loop.example/g01261/laws.FnExactHoleTally", spec := "fnExactHoleTally", inPlace := ["internal/bytealg.IndexByteString", "internal/bytealg.IndexString"], unfollowed := true, recurses := true, named := ["unicode/utf8.first", "unicode/utf8.acceptRanges", "internal/bytealg.MaxLen"], apart := false, laid := [("unicode/utf8.acceptRanges", laid_unicode_utf8_acceptRanges), ("unicode/utf8.first", laid_unicode_utf8_first)] }
def FnExactHoleTallySaid : Prop := fnExactHoleTallyRow.holds Tryd.pinned (OpenSpec.ofChange fnExactHoleTallySpec)

/-- ITS FALSE NEIGHBOUR: 'it returns false'. Refute it at one input. -/
def fnExactHoleTallyWrong : ChangeSpec := { name := "fnExactHoleTally", fn := fun _ => fun
  | [d] => { results := [.lit (.bool false)], args := [d] }
  | _ => none }
def FnExactHoleTallyWrongFalsely : Prop := fnExactHoleTallyRow.holds Tryd.pinned (OpenSpec.ofChange fnExactHoleTallyWrong)

/-- 'laws.FnExactCheckAfter': WHATEVER THE INPUT: true; the input reads as it did. -/
def fnExactCheckAfterSpec : ChangeSpec := { name := "fnExactCheckAfter", fn := fun _ => fun
  | [d1, d2, d3] => { results := [.lit (.bool true)], args := [d1, d2, d3] }
  | _ => none }
def fnExactCheckAfterRow : OpenClaim := { program := "ytcaeabgfgofefaadoor", sum := "7c0cf58729c5d7320f8964160f4efeacfef48f3533bb96817dc7f7a5e0dcef5c", func := "loop.example/g01261/laws.FnExactCheckAfter", spec := "fnExactCheckAfter", inPlace := ["internal/bytealg.IndexByteString", "internal/bytealg.IndexString"], unfollowed := true, recurses := true, named := ["unicode/utf8.first", "unicode/utf8.acceptRanges", "internal/bytealg.MaxLen"], apart := false, laid := [("unicode/utf8.acceptRanges", laid_unicode_utf8_acceptRanges), ("unicode/utf8.first", laid_unicode_utf8_first)] }
def FnExactCheckAfterSaid : Prop := fnExactCheckAfterRow.holds Tryd.pinned (OpenSpec.ofChange fnExactCheckAfterSpec)

/-- ITS FALSE NEIGHBOUR: 'it returns false'. Refute it at one input. -/
def fnExactCheckAfterWrong : ChangeSpec := { name := "fnExactCheckAfter", fn := fun _ => fun
  | [d1, d2, d3] => { results := [.lit (.bool false)], args := [d1, d2, d3] }
  | _ => none }
def FnExactCheckAfterWrongFalsely : Prop := fnExactCheckAfterRow.holds Tryd.pinned (OpenSpec.ofChange fnExactCheckAfterWrong)

/- THE SECOND FORM. 'bulk': how many values and letters a reading holds, each counted each time it is reached (what is shared counts as often as it is met; a slice's spare places count too). A statement '..UptoSaid' is the law's where the arguments, and the package variables that the reading takes, are together of bulk at most 1048576: NARROWER than '..Said'. Prove '..Said' where nothing that the law and all that it calls make is longer than what came in: it says more and counts as full. Else prove '..UptoSaid'. A law counts once. -/
mutual
def uptoBulk {H : Type} : DataW H → Nat
  | .lit (.string bytes) => bytes.length + 1
  | .lit _ => 1
  | .nil => 1
  | .ptr d => uptoBulk d + 1
  | .slice elems spare => uptoBulkAll elems + uptoBulkAll spare + 1
  | .agg parts => uptoBulkAll parts + 1
  | .iface _ d => uptoBulk d + 1
  | .map entries => uptoBulkEntries entries + 1
  | .held _ => 1
def uptoBulkAll {H : Type} : List (DataW H) → Nat
  | [] => 0
  | d :: r => uptoBulk d + uptoBulkAll r
def uptoBulkEntries {H : Type} : List (Lit × DataW H) → Nat
  | [] => 0
  | x :: r => uptoBulkEntry x + uptoBulkEntries r
def uptoBulkEntry {H : Type} : Lit × DataW H → Nat
  | (.string bytes, d) => bytes.length + uptoBulk d + 1
  | (_, d) => uptoBulk d + 1
 end
def uptoSmall : (H : Type) → List (DataW H) → Bool := fun _ ds => decide (uptoBulkAll ds ≤ 1048576)
def OpenSpec.upto (s : _root_.Go.ChangeSpec) : _root_.Go.OpenSpec := { _root_.Go.OpenSpec.ofChange s with cond := some uptoSmall }

/-- 'laws.FnExactHashCard', WHERE WHAT IT READS IS OF BULK AT MOST 1048576: true; the input reads as it did. -/
def fnExactHashCardUptoRow : OpenClaim := { program := "ytcaeabgfgofefaadoor", sum := "7c0cf58729c5d7320f8964160f4efeacfef48f3533bb96817dc7f7a5e0dcef5c", func := "loop.example/g01261/laws.FnExactHashCard", spec := "fnExactHashCard", inPlace := ["internal/bytealg.IndexByteString", "internal/bytealg.IndexString"], unfollowed := true, recurses := true, named := ["unicode/utf8.first", "unicode/utf8.acceptRanges", "internal/bytealg.MaxLen"], apart := false, laid := [("unicode/utf8.acceptRanges", laid_unicode_utf8_acceptRanges), ("unicode/utf8.first", laid_unicode_utf8_first)], narrowed := true }
def FnExactHashCardUptoSaid : Prop := fnExactHashCardUptoRow.holds Tryd.pinned (OpenSpec.upto fnExactHashCardSpec)

/-- 'laws.FnExactSameCards', WHERE WHAT IT READS IS OF BULK AT MOST 1048576: true; the input reads as it did. -/
def fnExactSameCardsUptoRow : OpenClaim := { program := "ytcaeabgfgofefaadoor", sum := "7c0cf58729c5d7320f8964160f4efeacfef48f3533bb96817dc7f7a5e0dcef5c", func := "loop.example/g01261/laws.FnExactSameCards", spec := "fnExactSameCards", inPlace := ["internal/bytealg.IndexByteString", "internal/bytealg.IndexString"], unfollowed := true, recurses := true, named := ["unicode/utf8.first", "unicode/utf8.acceptRanges", "internal/bytealg.MaxLen"], apart := false, laid := [("unicode/utf8.acceptRanges", laid_unicode_utf8_acceptRanges), ("unicode/utf8.first", laid_unicode_utf8_first)], narrowed := true }
def FnExactSameCardsUptoSaid : Prop := fnExactSameCardsUptoRow.holds Tryd.pinned (OpenSpec.upto fnExactSameCardsSpec)

/-- 'laws.FnExactCheckOfDeck', WHERE WHAT IT READS IS OF BULK AT MOST 1048576: true; the input reads as it did. -/
def fnExactCheckOfDeckUptoRow : OpenClaim := { program := "ytcaeabgfgofefaadoor", sum := "7c0cf58729c5d7320f8964160f4efeacfef48f3533bb96817dc7f7a5e0dcef5c", func := "loop.example/g01261/laws.FnExactCheckOfDeck", spec := "fnExactCheckOfDeck", inPlace := ["internal/bytealg.IndexByteString", "internal/bytealg.IndexString"], unfollowed := true, recurses := true, named := ["unicode/utf8.first", "unicode/utf8.acceptRanges", "internal/bytealg.MaxLen"], apart := false, laid := [("unicode/utf8.acceptRanges", laid_unicode_utf8_acceptRanges), ("unicode/utf8.first", laid_unicode_utf8_first)], narrowed := true }
def FnExactCheckOfDeckUptoSaid : Prop := fnExactCheckOfDeckUptoRow.holds Tryd.pinned (OpenSpec.upto fnExactCheckOfDeckSpec)

/-- 'laws.FnExactTogetherOf', WHERE WHAT IT READS IS OF BULK AT MOST 1048576: true; the input reads as it did. -/
def fnExactTogetherOfUptoRow : OpenClaim := { program := "ytcaeabgfgofefaadoor", sum := "7c0cf58729c5d7320f8964160f4efeacfef48f3533bb96817dc7f7a5e0dcef5c", func := "loop.example/g01261/laws.FnExactTogetherOf", spec := "fnExactTogetherOf", inPlace := ["internal/bytealg.IndexByteString", "internal/bytealg.IndexString"], unfollowed := true, recurses := true, named := ["unicode/utf8.first", "unicode/utf8.acceptRanges", "internal/bytealg.MaxLen"], apart := false, laid := [("unicode/utf8.acceptRanges", laid_unicode_utf8_acceptRanges), ("unicode/utf8.first", laid_unicode_utf8_first)], narrowed := true }
def FnExactTogetherOfUptoSaid : Prop := fnExactTogetherOfUptoRow.holds Tryd.pinned (OpenSpec.upto fnExactTogetherOfSpec)

/-- 'laws.FnExactIdleHoles', WHERE WHAT IT READS IS OF BULK AT MOST 1048576: true; the input reads as it did. -/
def fnExactIdleHolesUptoRow : OpenClaim := { program := "ytcaeabgfgofefaadoor", sum := "7c0cf58729c5d7320f8964160f4efeacfef48f3533bb96817dc7f7a5e0dcef5c", func := "loop.example/g01261/laws.FnExactIdleHoles", spec := "fnExactIdleHoles", inPlace := ["internal/bytealg.IndexByteString", "internal/bytealg.IndexString"], unfollowed := true, recurses := true, named := ["unicode/utf8.first", "unicode/utf8.acceptRanges", "internal/bytealg.MaxLen"], apart := false, laid := [("unicode/utf8.acceptRanges", laid_unicode_utf8_acceptRanges), ("unicode/utf8.first", laid_unicode_utf8_first)], narrowed := true }
def FnExactIdleHolesUptoSaid : Prop := fnExactIdleHolesUptoRow.holds Tryd.pinned (OpenSpec.upto fnExactIdleHolesSpec)

/-- 'laws.FnExactValueIn', WHERE WHAT IT READS IS OF BULK AT MOST 1048576: true; the input reads as it did. -/
def fnExactValueInUptoRow : OpenClaim := { program := "ytcaeabgfgofefaadoor", sum := "7c0cf58729c5d7320f8964160f4efeacfef48f3533bb96817dc7f7a5e0dcef5c", func := "loop.example/g01261/laws.FnExactValueIn", spec := "fnExactValueIn", inPlace := ["internal/bytealg.IndexByteString", "internal/bytealg.IndexString"], named := ["unicode/utf8.first", "unicode/utf8.acceptRanges", "internal/bytealg.MaxLen"], apart := false, laid := [("unicode/utf8.acceptRanges", laid_unicode_utf8_acceptRanges), ("unicode/utf8.first", laid_unicode_utf8_first)], narrowed := true }
def FnExactValueInUptoSaid : Prop := fnExactValueInUptoRow.holds Tryd.pinned (OpenSpec.upto fnExactValueInSpec)

/-- 'laws.FnExactCheckAnswer', WHERE WHAT IT READS IS OF BULK AT MOST 1048576: true; the input reads as it did. -/
def fnExactCheckAnswerUptoRow : OpenClaim := { program := "ytcaeabgfgofefaadoor", sum := "7c0cf58729c5d7320f8964160f4efeacfef48f3533bb96817dc7f7a5e0dcef5c", func := "loop.example/g01261/laws.FnExactCheckAnswer", spec := "fnExactCheckAnswer", inPlace := ["internal/bytealg.IndexByteString", "internal/bytealg.IndexString"], unfollowed := true, recurses := true, named := ["unicode/utf8.first", "unicode/utf8.acceptRanges", "internal/bytealg.MaxLen"], apart := false, laid := [("unicode/utf8.acceptRanges", laid_unicode_utf8_acceptRanges), ("unicode/utf8.first", laid_unicode_utf8_first)], narrowed := true }
def FnExactCheckAnswerUptoSaid : Prop := fnExactCheckAnswerUptoRow.holds Tryd.pinned (OpenSpec.upto fnExactCheckAnswerSpec)

/-- 'laws.FnExactFirstFault', WHERE WHAT IT READS IS OF BULK AT MOST 1048576: true; the input reads as it did. -/
def fnExactFirstFaultUptoRow : OpenClaim := { program := "ytcaeabgfgofefaadoor", sum := "7c0cf58729c5d7320f8964160f4efeacfef48f3533bb96817dc7f7a5e0dcef5c", func := "loop.example/g01261/laws.FnExactFirstFault", spec := "fnExactFirstFault", inPlace := ["internal/bytealg.IndexByteString", "internal/bytealg.IndexString"], unfollowed := true, recurses := true, named := ["unicode/utf8.first", "unicode/utf8.acceptRanges", "internal/bytealg.MaxLen"], apart := false, laid := [("unicode/utf8.acceptRanges", laid_unicode_utf8_acceptRanges), ("unicode/utf8.first", laid_unicode_utf8_first)], narrowed := true }
def FnExactFirstFaultUptoSaid : Prop := fnExactFirstFaultUptoRow.holds Tryd.pinned (OpenSpec.upto fnExactFirstFaultSpec)

/-- 'laws.FnExactExpectedFalse', WHERE WHAT IT READS IS OF BULK AT MOST 1048576: true; the input reads as it did. -/
def fnExactExpectedFalseUptoRow : OpenClaim := { program := "ytcaeabgfgofefaadoor", sum := "7c0cf58729c5d7320f8964160f4efeacfef48f3533bb96817dc7f7a5e0dcef5c", func := "loop.example/g01261/laws.FnExactExpectedFalse", spec := "fnExactExpectedFalse", inPlace := ["internal/bytealg.IndexByteString", "internal/bytealg.IndexString"], unfollowed := true, recurses := true, named := ["unicode/utf8.first", "unicode/utf8.acceptRanges", "internal/bytealg.MaxLen"], apart := false, laid := [("unicode/utf8.acceptRanges", laid_unicode_utf8_acceptRanges), ("unicode/utf8.first", laid_unicode_utf8_first)], narrowed := true }
def FnExactExpectedFalseUptoSaid : Prop := fnExactExpectedFalseUptoRow.holds Tryd.pinned (OpenSpec.upto fnExactExpectedFalseSpec)

/-- 'laws.FnExactNearestCards', WHERE WHAT IT READS IS OF BULK AT MOST 1048576: true; the input reads as it did. -/
def fnExactNearestCardsUptoRow : OpenClaim := { program := "ytcaeabgfgofefaadoor", sum := "7c0cf58729c5d7320f8964160f4efeacfef48f3533bb96817dc7f7a5e0dcef5c", func := "loop.example/g01261/laws.FnExactNearestCards", spec := "fnExactNearestCards", inPlace := ["internal/bytealg.IndexByteString", "internal/bytealg.IndexString"], unfollowed := true, recurses := true, named := ["unicode/utf8.first", "unicode/utf8.acceptRanges", "internal/bytealg.MaxLen"], apart := false, laid := [("unicode/utf8.acceptRanges", laid_unicode_utf8_acceptRanges), ("unicode/utf8.first", laid_unicode_utf8_first)], narrowed := true }
def FnExactNearestCardsUptoSaid : Prop := fnExactNearestCardsUptoRow.holds Tryd.pinned (OpenSpec.upto fnExactNearestCardsSpec)

/-- 'laws.FnExactHoleTally', WHERE WHAT IT READS IS OF BULK AT MOST 1048576: true; the input reads as it did. -/
def fnExactHoleTallyUptoRow : OpenClaim := { program := "ytcaeabgfgofefaadoor", sum := "7c0cf58729c5d7320f8964160f4efeacfef48f3533bb96817dc7f7a5e0dcef5c", func := "loop.example/g01261/laws.FnExactHoleTally", spec := "fnExactHoleTally", inPlace := ["internal/bytealg.IndexByteString", "internal/bytealg.IndexString"], unfollowed := true, recurses := true, named := ["unicode/utf8.first", "unicode/utf8.acceptRanges", "internal/bytealg.MaxLen"], apart := false, laid := [("unicode/utf8.acceptRanges", laid_unicode_utf8_acceptRanges), ("unicode/utf8.first", laid_unicode_utf8_first)], narrowed := true }
def FnExactHoleTallyUptoSaid : Prop := fnExactHoleTallyUptoRow.holds Tryd.pinned (OpenSpec.upto fnExactHoleTallySpec)

/-- 'laws.FnExactCheckAfter', WHERE WHAT IT READS IS OF BULK AT MOST 1048576: true; the input reads as it did. -/
def fnExactCheckAfterUptoRow : OpenClaim := { program := "ytcaeabgfgofefaadoor", sum := "7c0cf58729c5d7320f8964160f4efeacfef48f3533bb96817dc7f7a5e0dcef5c", func := "loop.example/g01261/laws.FnExactCheckAfter", spec := "fnExactCheckAfter", inPlace := ["internal/bytealg.IndexByteString", "internal/bytealg.IndexString"], unfollowed := true, recurses := true, named := ["unicode/utf8.first", "unicode/utf8.acceptRanges", "internal/bytealg.MaxLen"], apart := false, laid := [("unicode/utf8.acceptRanges", laid_unicode_utf8_acceptRanges), ("unicode/utf8.first", laid_unicode_utf8_first)], narrowed := true }
def FnExactCheckAfterUptoSaid : Prop := fnExactCheckAfterUptoRow.holds Tryd.pinned (OpenSpec.upto fnExactCheckAfterSpec)

end Rows
end Go.Proofs.YtcaeabgfgofefaaDoor
