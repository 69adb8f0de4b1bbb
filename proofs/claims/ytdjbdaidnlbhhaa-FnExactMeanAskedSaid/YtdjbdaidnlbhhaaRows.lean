/-
  No cell of these rows narrows 'for every input' (looked for: loops, veiled, ifaces, maps, wideKeys, modest, calm, conditions, laid).
  DERIVED. THE GIVEN ROWS OF THIS SEAT. 11 by the template 'for every input the law returns true; each argument reads behind the call as it read before'; 0 by the template 'total and deterministic' (their statements: YtdjbdaidnlbhhaaTotals.lean).
  GIVEN WITH THE SEED: the statements are not yours to turn. If you find one false, say at which input.
  Laid BY PROGRAM, IN A SANDBOX (cutbox-rows.mjs): the forced cells as the released guide's own fill.sh prints them over the translation 326f59d1c74713c6… (all of the seat's roots in one cut). By AI agents, Wed Nov 11 2026. No macro, syntax, notation, axiom, sorry.
-/
import Derived.Test.YtdjbdaidnlbhhaaChecked
import GoSem.Claim
import GoSem.ClaimJoined
import GoSem.ClaimMapViews
import Derived.JoinedTies
import Derived.KernelRfl
namespace Go.Proofs.Ytdjbdaidnlbhhaa
/- THE CELL 'sum', in the pinned program and in every row, IS THE sha256 OF THE DUMP (.gsa) THAT YtdjbdaidnlbhhaaProg.lean LOADS. Nothing in Lean hashes anything: it is a label: what it is worth is what the hold of that sum in a sandbox is worth. -/
noncomputable def Try.pinned : Pinned := { name := "ytdjbdaidnlbhhaa", sum := "326f59d1c74713c6f2a693261a54c597b1acfbe75a3a83e0a9ed13888a29302a", checked := Try.checked }
namespace Rows
def none {H : Type} : Left H := { results := [], args := [] }

/-- 'laws.FnExactShareOf': WHATEVER THE INPUT: true; the input reads as it did. -/
def fnExactShareOfSpec : ChangeSpec := { name := "fnExactShareOf", fn := fun _ => fun
  | [d1, d2] => { results := [.lit (.bool true)], args := [d1, d2] }
  | _ => none }
def fnExactShareOfRow : OpenClaim := { program := "ytdjbdaidnlbhhaa", sum := "326f59d1c74713c6f2a693261a54c597b1acfbe75a3a83e0a9ed13888a29302a", func := "loop.example/g01261/laws.FnExactShareOf", spec := "fnExactShareOf", apart := false }
def FnExactShareOfSaid : Prop := fnExactShareOfRow.holds Try.pinned (OpenSpec.ofChange fnExactShareOfSpec)

/-- ITS FALSE NEIGHBOUR: 'it returns false'. Refute it at one input. -/
def fnExactShareOfWrong : ChangeSpec := { name := "fnExactShareOf", fn := fun _ => fun
  | [d1, d2] => { results := [.lit (.bool false)], args := [d1, d2] }
  | _ => none }
def FnExactShareOfWrongFalsely : Prop := fnExactShareOfRow.holds Try.pinned (OpenSpec.ofChange fnExactShareOfWrong)

/-- 'laws.FnExactBestSize': WHATEVER THE INPUT: true; the input reads as it did. -/
def fnExactBestSizeSpec : ChangeSpec := { name := "fnExactBestSize", fn := fun _ => fun
  | [d1, d2, d3, d4, d5] => { results := [.lit (.bool true)], args := [d1, d2, d3, d4, d5] }
  | _ => none }
def fnExactBestSizeRow : OpenClaim := { program := "ytdjbdaidnlbhhaa", sum := "326f59d1c74713c6f2a693261a54c597b1acfbe75a3a83e0a9ed13888a29302a", func := "loop.example/g01261/laws.FnExactBestSize", spec := "fnExactBestSize", apart := false }
def FnExactBestSizeSaid : Prop := fnExactBestSizeRow.holds Try.pinned (OpenSpec.ofChange fnExactBestSizeSpec)

/-- ITS FALSE NEIGHBOUR: 'it returns false'. Refute it at one input. -/
def fnExactBestSizeWrong : ChangeSpec := { name := "fnExactBestSize", fn := fun _ => fun
  | [d1, d2, d3, d4, d5] => { results := [.lit (.bool false)], args := [d1, d2, d3, d4, d5] }
  | _ => none }
def FnExactBestSizeWrongFalsely : Prop := fnExactBestSizeRow.holds Try.pinned (OpenSpec.ofChange fnExactBestSizeWrong)

/-- 'laws.FnExactFalseChance': WHATEVER THE INPUT: true; the input reads as it did. -/
def fnExactFalseChanceSpec : ChangeSpec := { name := "fnExactFalseChance", fn := fun _ => fun
  | [d1, d2, d3] => { results := [.lit (.bool true)], args := [d1, d2, d3] }
  | _ => none }
def fnExactFalseChanceRow : OpenClaim := { program := "ytdjbdaidnlbhhaa", sum := "326f59d1c74713c6f2a693261a54c597b1acfbe75a3a83e0a9ed13888a29302a", func := "loop.example/g01261/laws.FnExactFalseChance", spec := "fnExactFalseChance", apart := false }
def FnExactFalseChanceSaid : Prop := fnExactFalseChanceRow.holds Try.pinned (OpenSpec.ofChange fnExactFalseChanceSpec)

/-- ITS FALSE NEIGHBOUR: 'it returns false'. Refute it at one input. -/
def fnExactFalseChanceWrong : ChangeSpec := { name := "fnExactFalseChance", fn := fun _ => fun
  | [d1, d2, d3] => { results := [.lit (.bool false)], args := [d1, d2, d3] }
  | _ => none }
def FnExactFalseChanceWrongFalsely : Prop := fnExactFalseChanceRow.holds Try.pinned (OpenSpec.ofChange fnExactFalseChanceWrong)

/-- 'laws.FnExactDistanceOf': WHATEVER THE INPUT: true; the input reads as it did. -/
def fnExactDistanceOfSpec : ChangeSpec := { name := "fnExactDistanceOf", fn := fun _ => fun
  | [d1, d2] => { results := [.lit (.bool true)], args := [d1, d2] }
  | _ => none }
def fnExactDistanceOfRow : OpenClaim := { program := "ytdjbdaidnlbhhaa", sum := "326f59d1c74713c6f2a693261a54c597b1acfbe75a3a83e0a9ed13888a29302a", func := "loop.example/g01261/laws.FnExactDistanceOf", spec := "fnExactDistanceOf", apart := false }
def FnExactDistanceOfSaid : Prop := fnExactDistanceOfRow.holds Try.pinned (OpenSpec.ofChange fnExactDistanceOfSpec)

/-- ITS FALSE NEIGHBOUR: 'it returns false'. Refute it at one input. -/
def fnExactDistanceOfWrong : ChangeSpec := { name := "fnExactDistanceOf", fn := fun _ => fun
  | [d1, d2] => { results := [.lit (.bool false)], args := [d1, d2] }
  | _ => none }
def FnExactDistanceOfWrongFalsely : Prop := fnExactDistanceOfRow.holds Try.pinned (OpenSpec.ofChange fnExactDistanceOfWrong)

/-- 'laws.FnExactCompareShares': WHATEVER THE INPUT: true; the input reads as it did. -/
def fnExactCompareSharesSpec : ChangeSpec := { name := "fnExactCompareShares", fn := fun _ => fun
  | [d1, d2] => { results := [.lit (.bool true)], args := [d1, d2] }
  | _ => none }
def fnExactCompareSharesRow : OpenClaim := { program := "ytdjbdaidnlbhhaa", sum := "326f59d1c74713c6f2a693261a54c597b1acfbe75a3a83e0a9ed13888a29302a", func := "loop.example/g01261/laws.FnExactCompareShares", spec := "fnExactCompareShares", apart := false }
def FnExactCompareSharesSaid : Prop := fnExactCompareSharesRow.holds Try.pinned (OpenSpec.ofChange fnExactCompareSharesSpec)

/-- ITS FALSE NEIGHBOUR: 'it returns false'. Refute it at one input. -/
def fnExactCompareSharesWrong : ChangeSpec := { name := "fnExactCompareShares", fn := fun _ => fun
  | [d1, d2] => { results := [.lit (.bool false)], args := [d1, d2] }
  | _ => none }
def FnExactCompareSharesWrongFalsely : Prop := fnExactCompareSharesRow.holds Try.pinned (OpenSpec.ofChange fnExactCompareSharesWrong)

/-- 'laws.FnExactSameAnswer': WHATEVER THE INPUT: true; the input reads as it did. -/
def fnExactSameAnswerSpec : ChangeSpec := { name := "fnExactSameAnswer", fn := fun _ => fun
  | [d1, d2] => { results := [.lit (.bool true)], args := [d1, d2] }
  | _ => none }
def fnExactSameAnswerRow : OpenClaim := { program := "ytdjbdaidnlbhhaa", sum := "326f59d1c74713c6f2a693261a54c597b1acfbe75a3a83e0a9ed13888a29302a", func := "loop.example/g01261/laws.FnExactSameAnswer", spec := "fnExactSameAnswer", apart := false }
def FnExactSameAnswerSaid : Prop := fnExactSameAnswerRow.holds Try.pinned (OpenSpec.ofChange fnExactSameAnswerSpec)

/-- ITS FALSE NEIGHBOUR: 'it returns false'. Refute it at one input. -/
def fnExactSameAnswerWrong : ChangeSpec := { name := "fnExactSameAnswer", fn := fun _ => fun
  | [d1, d2] => { results := [.lit (.bool false)], args := [d1, d2] }
  | _ => none }
def FnExactSameAnswerWrongFalsely : Prop := fnExactSameAnswerRow.holds Try.pinned (OpenSpec.ofChange fnExactSameAnswerWrong)

/-- 'laws.FnExactSameTree': WHATEVER THE INPUT: true; the input reads as it did. -/
def fnExactSameTreeSpec : ChangeSpec := { name := "fnExactSameTree", fn := fun _ => fun
  | [d1, d2] => { results := [.lit (.bool true)], args := [d1, d2] }
  | _ => none }
def fnExactSameTreeRow : OpenClaim := { program := "ytdjbdaidnlbhhaa", sum := "326f59d1c74713c6f2a693261a54c597b1acfbe75a3a83e0a9ed13888a29302a", func := "loop.example/g01261/laws.FnExactSameTree", spec := "fnExactSameTree", unfollowed := true, recurses := true, apart := false }
def FnExactSameTreeSaid : Prop := fnExactSameTreeRow.holds Try.pinned (OpenSpec.ofChange fnExactSameTreeSpec)

/-- ITS FALSE NEIGHBOUR: 'it returns false'. Refute it at one input. -/
def fnExactSameTreeWrong : ChangeSpec := { name := "fnExactSameTree", fn := fun _ => fun
  | [d1, d2] => { results := [.lit (.bool false)], args := [d1, d2] }
  | _ => none }
def FnExactSameTreeWrongFalsely : Prop := fnExactSameTreeRow.holds Try.pinned (OpenSpec.ofChange fnExactSameTreeWrong)

/-- 'laws.FnExactValidTree': WHATEVER THE INPUT: true; the input reads as it did. -/
def fnExactValidTreeSpec : ChangeSpec := { name := "fnExactValidTree", fn := fun _ => fun
  | [d] => { results := [.lit (.bool true)], args := [d] }
  | _ => none }
def fnExactValidTreeRow : OpenClaim := { program := "ytdjbdaidnlbhhaa", sum := "326f59d1c74713c6f2a693261a54c597b1acfbe75a3a83e0a9ed13888a29302a", func := "loop.example/g01261/laws.FnExactValidTree", spec := "fnExactValidTree", unfollowed := true, recurses := true, apart := false }
def FnExactValidTreeSaid : Prop := fnExactValidTreeRow.holds Try.pinned (OpenSpec.ofChange fnExactValidTreeSpec)

/-- ITS FALSE NEIGHBOUR: 'it returns false'. Refute it at one input. -/
def fnExactValidTreeWrong : ChangeSpec := { name := "fnExactValidTree", fn := fun _ => fun
  | [d] => { results := [.lit (.bool false)], args := [d] }
  | _ => none }
def FnExactValidTreeWrongFalsely : Prop := fnExactValidTreeRow.holds Try.pinned (OpenSpec.ofChange fnExactValidTreeWrong)

/-- 'laws.FnExactDeepestOf': WHATEVER THE INPUT: true; the input reads as it did. -/
def fnExactDeepestOfSpec : ChangeSpec := { name := "fnExactDeepestOf", fn := fun _ => fun
  | [d] => { results := [.lit (.bool true)], args := [d] }
  | _ => none }
def fnExactDeepestOfRow : OpenClaim := { program := "ytdjbdaidnlbhhaa", sum := "326f59d1c74713c6f2a693261a54c597b1acfbe75a3a83e0a9ed13888a29302a", func := "loop.example/g01261/laws.FnExactDeepestOf", spec := "fnExactDeepestOf", unfollowed := true, recurses := true, apart := false }
def FnExactDeepestOfSaid : Prop := fnExactDeepestOfRow.holds Try.pinned (OpenSpec.ofChange fnExactDeepestOfSpec)

/-- ITS FALSE NEIGHBOUR: 'it returns false'. Refute it at one input. -/
def fnExactDeepestOfWrong : ChangeSpec := { name := "fnExactDeepestOf", fn := fun _ => fun
  | [d] => { results := [.lit (.bool false)], args := [d] }
  | _ => none }
def FnExactDeepestOfWrongFalsely : Prop := fnExactDeepestOfRow.holds Try.pinned (OpenSpec.ofChange fnExactDeepestOfWrong)

/-- 'laws.FnExactMeanAsked': WHATEVER THE INPUT: true; the input reads as it did. -/
def fnExactMeanAskedSpec : ChangeSpec := { name := "fnExactMeanAsked", fn := fun _ => fun
  | [d] => { results := [.lit (.bool true)], args := [d] }
  | _ => none }
def fnExactMeanAskedRow : OpenClaim := { program := "ytdjbdaidnlbhhaa", sum := "326f59d1c74713c6f2a693261a54c597b1acfbe75a3a83e0a9ed13888a29302a", func := "loop.example/g01261/laws.FnExactMeanAsked", spec := "fnExactMeanAsked", unfollowed := true, recurses := true, apart := false }
def FnExactMeanAskedSaid : Prop := fnExactMeanAskedRow.holds Try.pinned (OpenSpec.ofChange fnExactMeanAskedSpec)

/-- ITS FALSE NEIGHBOUR: 'it returns false'. Refute it at one input. -/
def fnExactMeanAskedWrong : ChangeSpec := { name := "fnExactMeanAsked", fn := fun _ => fun
  | [d] => { results := [.lit (.bool false)], args := [d] }
  | _ => none }
def FnExactMeanAskedWrongFalsely : Prop := fnExactMeanAskedRow.holds Try.pinned (OpenSpec.ofChange fnExactMeanAskedWrong)

/-- 'laws.FnExactWalkTree': WHATEVER THE INPUT: true; the input reads as it did. -/
def fnExactWalkTreeSpec : ChangeSpec := { name := "fnExactWalkTree", fn := fun _ => fun
  | [d1, d2] => { results := [.lit (.bool true)], args := [d1, d2] }
  | _ => none }
def fnExactWalkTreeRow : OpenClaim := { program := "ytdjbdaidnlbhhaa", sum := "326f59d1c74713c6f2a693261a54c597b1acfbe75a3a83e0a9ed13888a29302a", func := "loop.example/g01261/laws.FnExactWalkTree", spec := "fnExactWalkTree", unfollowed := true, recurses := true, apart := false }
def FnExactWalkTreeSaid : Prop := fnExactWalkTreeRow.holds Try.pinned (OpenSpec.ofChange fnExactWalkTreeSpec)

/-- ITS FALSE NEIGHBOUR: 'it returns false'. Refute it at one input. -/
def fnExactWalkTreeWrong : ChangeSpec := { name := "fnExactWalkTree", fn := fun _ => fun
  | [d1, d2] => { results := [.lit (.bool false)], args := [d1, d2] }
  | _ => none }
def FnExactWalkTreeWrongFalsely : Prop := fnExactWalkTreeRow.holds Try.pinned (OpenSpec.ofChange fnExactWalkTreeWrong)

/- THE SECOND FORM. 'bulk': how many values and letters a reading holds, each counted each time it is reached (what is shared counts as often as it is met; a slice's spare places count too). A statement '..UptoSaid' is the law's where the arguments, and the package variables that the reading takes, are together of bulk at most 1048576: NARROWER than '..Said'. Prove '..Said' where nothing that the law and all that it calls make is longer than what came in: it says more and counts as full. Else prove '..UptoSaid'. A law counts once. -/
mutual
def uptoBulk {H : Type} : DataW H → Nat
  | .lit (.string bytes) => bytes.length + 1
  | .lit _ => 1
  | .nil => 1
  | .ptr d => uptoBulk d + 1
  | .slice elems spare => uptoBulkAll elems + uptoBulkAll spare + 1
  | .agg parts => uptoBulkAll parts + 1
  | .iface _ d => uptoBulk d + 1
  | .map entries => uptoBulkEntries entries + 1
  | .held _ => 1
def uptoBulkAll {H : Type} : List (DataW H) → Nat
  | [] => 0
  | d :: r => uptoBulk d + uptoBulkAll r
def uptoBulkEntries {H : Type} : List (Lit × DataW H) → Nat
  | [] => 0
  | x :: r => uptoBulkEntry x + uptoBulkEntries r
def uptoBulkEntry {H : Type} : Lit × DataW H → Nat
  | (.string bytes, d) => bytes.length + uptoBulk d + 1
  | (_, d) => uptoBulk d + 1
 end
def uptoSmall : (H : Type) → List (DataW H) → Bool := fun _ ds => decide (uptoBulkAll ds ≤ 1048576)
def OpenSpec.upto (s : _root_.Go.ChangeSpec) : _root_.Go.OpenSpec := { _root_.Go.OpenSpec.ofChange s with cond := some uptoSmall }

/-- 'laws.FnExactShareOf', WHERE WHAT IT READS IS OF BULK AT MOST 1048576: true; the input reads as it did. -/
def fnExactShareOfUptoRow : OpenClaim := { program := "ytdjbdaidnlbhhaa", sum := "326f59d1c74713c6f2a693261a54c597b1acfbe75a3a83e0a9ed13888a29302a", func := "loop.example/g01261/laws.FnExactShareOf", spec := "fnExactShareOf", apart := false, narrowed := true }
def FnExactShareOfUptoSaid : Prop := fnExactShareOfUptoRow.holds Try.pinned (OpenSpec.upto fnExactShareOfSpec)

/-- 'laws.FnExactBestSize', WHERE WHAT IT READS IS OF BULK AT MOST 1048576: true; the input reads as it did. -/
def fnExactBestSizeUptoRow : OpenClaim := { program := "ytdjbdaidnlbhhaa", sum := "326f59d1c74713c6f2a693261a54c597b1acfbe75a3a83e0a9ed13888a29302a", func := "loop.example/g01261/laws.FnExactBestSize", spec := "fnExactBestSize", apart := false, narrowed := true }
def FnExactBestSizeUptoSaid : Prop := fnExactBestSizeUptoRow.holds Try.pinned (OpenSpec.upto fnExactBestSizeSpec)

/-- 'laws.FnExactFalseChance', WHERE WHAT IT READS IS OF BULK AT MOST 1048576: true; the input reads as it did. -/
def fnExactFalseChanceUptoRow : OpenClaim := { program := "ytdjbdaidnlbhhaa", sum := "326f59d1c74713c6f2a693261a54c597b1acfbe75a3a83e0a9ed13888a29302a", func := "loop.example/g01261/laws.FnExactFalseChance", spec := "fnExactFalseChance", apart := false, narrowed := true }
def FnExactFalseChanceUptoSaid : Prop := fnExactFalseChanceUptoRow.holds Try.pinned (OpenSpec.upto fnExactFalseChanceSpec)

/-- 'laws.FnExactDistanceOf', WHERE WHAT IT READS IS OF BULK AT MOST 1048576: true; the input reads as it did. -/
def fnExactDistanceOfUptoRow : OpenClaim := { program := "ytdjbdaidnlbhhaa", sum := "326f59d1c74713c6f2a693261a54c597b1acfbe75a3a83e0a9ed13888a29302a", func := "loop.example/g01261/laws.FnExactDistanceOf", spec := "fnExactDistanceOf", apart := false, narrowed := true }
def FnExactDistanceOfUptoSaid : Prop := fnExactDistanceOfUptoRow.holds Try.pinned (OpenSpec.upto fnExactDistanceOfSpec)

/-- 'laws.FnExactCompareShares', WHERE WHAT IT READS IS OF BULK AT MOST 1048576: true; the input reads as it did. -/
def fnExactCompareSharesUptoRow : OpenClaim := { program := "ytdjbdaidnlbhhaa", sum := "326f59d1c74713c6f2a693261a54c597b1acfbe75a3a83e0a9ed13888a29302a", func := "loop.example/g01261/laws.FnExactCompareShares", spec := "fnExactCompareShares", apart := false, narrowed := true }
def FnExactCompareSharesUptoSaid : Prop := fnExactCompareSharesUptoRow.holds Try.pinned (OpenSpec.upto fnExactCompareSharesSpec)

/-- 'laws.FnExactSameAnswer', WHERE WHAT IT READS IS OF BULK AT MOST 1048576: true; the input reads as it did. -/
def fnExactSameAnswerUptoRow : OpenClaim := { program := "ytdjbdaidnlbhhaa", sum := "326f59d1c74713c6f2a693261a54c597b1acfbe75a3a83e0a9ed13888a29302a", func := "loop.example/g01261/laws.FnExactSameAnswer", spec := "fnExactSameAnswer", apart := false, narrowed := true }
def FnExactSameAnswerUptoSaid : Prop := fnExactSameAnswerUptoRow.holds Try.pinned (OpenSpec.upto fnExactSameAnswerSpec)

/-- 'laws.FnExactSameTree', WHERE WHAT IT READS IS OF BULK AT MOST 1048576: true; the input reads as it did. -/
def fnExactSameTreeUptoRow : OpenClaim := { program := "ytdjbdaidnlbhhaa", sum := "326f59d1c74713c6f2a693261a54c597b1acfbe75a3a83e0a9ed13888a29302a", func := "loop.example/g01261/laws.FnExactSameTree", spec := "fnExactSameTree", unfollowed := true, recurses := true, apart := false, narrowed := true }
def FnExactSameTreeUptoSaid : Prop := fnExactSameTreeUptoRow.holds Try.pinned (OpenSpec.upto fnExactSameTreeSpec)

/-- 'laws.FnExactValidTree', WHERE WHAT IT READS IS OF BULK AT MOST 1048576: true; the input reads as it did. -/
def fnExactValidTreeUptoRow : OpenClaim := { program := "ytdjbdaidnlbhhaa", sum := "326f59d1c74713c6f2a693261a54c597b1acfbe75a3a83e0a9ed13888a29302a", func := "loop.example/g01261/laws.FnExactValidTree", spec := "fnExactValidTree", unfollowed := true, recurses := true, apart := false, narrowed := true }
def FnExactValidTreeUptoSaid : Prop := fnExactValidTreeUptoRow.holds Try.pinned (OpenSpec.upto fnExactValidTreeSpec)

/-- 'laws.FnExactDeepestOf', WHERE WHAT IT READS IS OF BULK AT MOST 1048576: true; the input reads as it did. -/
def fnExactDeepestOfUptoRow : OpenClaim := { program := "ytdjbdaidnlbhhaa", sum := "326f59d1c74713c6f2a693261a54c597b1acfbe75a3a83e0a9ed13888a29302a", func := "loop.example/g01261/laws.FnExactDeepestOf", spec := "fnExactDeepestOf", unfollowed := true, recurses := true, apart := false, narrowed := true }
def FnExactDeepestOfUptoSaid : Prop := fnExactDeepestOfUptoRow.holds Try.pinned (OpenSpec.upto fnExactDeepestOfSpec)

/-- 'laws.FnExactMeanAsked', WHERE WHAT IT READS IS OF BULK AT MOST 1048576: true; the input reads as it did. -/
def fnExactMeanAskedUptoRow : OpenClaim := { program := "ytdjbdaidnlbhhaa", sum := "326f59d1c74713c6f2a693261a54c597b1acfbe75a3a83e0a9ed13888a29302a", func := "loop.example/g01261/laws.FnExactMeanAsked", spec := "fnExactMeanAsked", unfollowed := true, recurses := true, apart := false, narrowed := true }
def FnExactMeanAskedUptoSaid : Prop := fnExactMeanAskedUptoRow.holds Try.pinned (OpenSpec.upto fnExactMeanAskedSpec)

/-- 'laws.FnExactWalkTree', WHERE WHAT IT READS IS OF BULK AT MOST 1048576: true; the input reads as it did. -/
def fnExactWalkTreeUptoRow : OpenClaim := { program := "ytdjbdaidnlbhhaa", sum := "326f59d1c74713c6f2a693261a54c597b1acfbe75a3a83e0a9ed13888a29302a", func := "loop.example/g01261/laws.FnExactWalkTree", spec := "fnExactWalkTree", unfollowed := true, recurses := true, apart := false, narrowed := true }
def FnExactWalkTreeUptoSaid : Prop := fnExactWalkTreeUptoRow.holds Try.pinned (OpenSpec.upto fnExactWalkTreeSpec)

end Rows
end Go.Proofs.Ytdjbdaidnlbhhaa
