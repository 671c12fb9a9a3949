/-
  No cell of these rows narrows 'for every input' (looked for: loops, veiled, ifaces, maps, wideKeys, modest, calm, conditions, laid).
  DERIVED. THE GIVEN ROWS OF THIS SEAT. 7 by the template 'for every input the law returns true; each argument reads behind the call as it read before'; 0 by the template 'total and deterministic' (their statements: YtalcfnhcenpniaaTotals.lean).
  GIVEN WITH THE SEED: the statements are not yours to turn. If you find one false, say at which input.
  Laid BY PROGRAM, IN A SANDBOX (cutbox-rows.mjs): the forced cells as the released guide's own fill.sh prints them over the translation 3fb1368fc48b6bba… (all of the seat's roots in one cut). By AI agents, Wed Nov 11 2026. No macro, syntax, notation, axiom, sorry.
-/
import Derived.Test.YtalcfnhcenpniaaChecked
import GoSem.Claim
import GoSem.ClaimJoined
import GoSem.ClaimMapViews
import Derived.JoinedTies
import Derived.KernelRfl
namespace Go.Proofs.Ytalcfnhcenpniaa
/- THE CELL 'sum', in the pinned program and in every row, IS THE sha256 OF THE DUMP (.gsa) THAT YtalcfnhcenpniaaProg.lean LOADS. Nothing in Lean hashes anything: it is a label: what it is worth is what the hold of that sum in a sandbox is worth. -/
noncomputable def Try.pinned : Pinned := { name := "ytalcfnhcenpniaa", sum := "3fb1368fc48b6bbab06a4908000b4d1b0bd9b8718719c0d1de8f37b2309f75e6", checked := Try.checked }
namespace Rows
def none {H : Type} : Left H := { results := [], args := [] }

/-- 'warderlaw13.SubtreesAllow': WHATEVER THE INPUT: true; the input reads as it did. -/
def subtreesAllowSpec : ChangeSpec := { name := "subtreesAllow", fn := fun _ => fun
  | [d1, d2, d3, d4] => { results := [.lit (.bool true)], args := [d1, d2, d3, d4] }
  | _ => none }
def subtreesAllowRow : OpenClaim := { program := "ytalcfnhcenpniaa", sum := "3fb1368fc48b6bbab06a4908000b4d1b0bd9b8718719c0d1de8f37b2309f75e6", func := "warder/warderlaw13.SubtreesAllow", spec := "subtreesAllow", inPlace := ["internal/abi.NoEscape"], unfollowed := true, recurses := true, apart := false }
def SubtreesAllowSaid : Prop := subtreesAllowRow.holds Try.pinned (OpenSpec.ofChange subtreesAllowSpec)

/-- ITS FALSE NEIGHBOUR: 'it returns false'. Refute it at one input. -/
def subtreesAllowWrong : ChangeSpec := { name := "subtreesAllow", fn := fun _ => fun
  | [d1, d2, d3, d4] => { results := [.lit (.bool false)], args := [d1, d2, d3, d4] }
  | _ => none }
def SubtreesAllowWrongFalsely : Prop := subtreesAllowRow.holds Try.pinned (OpenSpec.ofChange subtreesAllowWrong)

/-- 'warderlaw13.SubtreesNarrow': WHATEVER THE INPUT: true; the input reads as it did. -/
def subtreesNarrowSpec : ChangeSpec := { name := "subtreesNarrow", fn := fun _ => fun
  | [d1, d2, d3, d4] => { results := [.lit (.bool true)], args := [d1, d2, d3, d4] }
  | _ => none }
def subtreesNarrowRow : OpenClaim := { program := "ytalcfnhcenpniaa", sum := "3fb1368fc48b6bbab06a4908000b4d1b0bd9b8718719c0d1de8f37b2309f75e6", func := "warder/warderlaw13.SubtreesNarrow", spec := "subtreesNarrow", inPlace := ["internal/abi.NoEscape"], unfollowed := true, recurses := true, apart := false }
def SubtreesNarrowSaid : Prop := subtreesNarrowRow.holds Try.pinned (OpenSpec.ofChange subtreesNarrowSpec)

/-- ITS FALSE NEIGHBOUR: 'it returns false'. Refute it at one input. -/
def subtreesNarrowWrong : ChangeSpec := { name := "subtreesNarrow", fn := fun _ => fun
  | [d1, d2, d3, d4] => { results := [.lit (.bool false)], args := [d1, d2, d3, d4] }
  | _ => none }
def SubtreesNarrowWrongFalsely : Prop := subtreesNarrowRow.holds Try.pinned (OpenSpec.ofChange subtreesNarrowWrong)

/-- 'warderlaw13.SubtreesBelow': WHATEVER THE INPUT: true; the input reads as it did. -/
def subtreesBelowSpec : ChangeSpec := { name := "subtreesBelow", fn := fun _ => fun
  | [d1, d2, d3] => { results := [.lit (.bool true)], args := [d1, d2, d3] }
  | _ => none }
def subtreesBelowRow : OpenClaim := { program := "ytalcfnhcenpniaa", sum := "3fb1368fc48b6bbab06a4908000b4d1b0bd9b8718719c0d1de8f37b2309f75e6", func := "warder/warderlaw13.SubtreesBelow", spec := "subtreesBelow", inPlace := ["internal/abi.NoEscape"], unfollowed := true, recurses := true, apart := false }
def SubtreesBelowSaid : Prop := subtreesBelowRow.holds Try.pinned (OpenSpec.ofChange subtreesBelowSpec)

/-- ITS FALSE NEIGHBOUR: 'it returns false'. Refute it at one input. -/
def subtreesBelowWrong : ChangeSpec := { name := "subtreesBelow", fn := fun _ => fun
  | [d1, d2, d3] => { results := [.lit (.bool false)], args := [d1, d2, d3] }
  | _ => none }
def SubtreesBelowWrongFalsely : Prop := subtreesBelowRow.holds Try.pinned (OpenSpec.ofChange subtreesBelowWrong)

/-- 'warderlaw13.SubtreesExcluded': WHATEVER THE INPUT: true; the input reads as it did. -/
def subtreesExcludedSpec : ChangeSpec := { name := "subtreesExcluded", fn := fun _ => fun
  | [d1, d2, d3] => { results := [.lit (.bool true)], args := [d1, d2, d3] }
  | _ => none }
def subtreesExcludedRow : OpenClaim := { program := "ytalcfnhcenpniaa", sum := "3fb1368fc48b6bbab06a4908000b4d1b0bd9b8718719c0d1de8f37b2309f75e6", func := "warder/warderlaw13.SubtreesExcluded", spec := "subtreesExcluded", inPlace := ["internal/abi.NoEscape"], unfollowed := true, recurses := true, apart := false }
def SubtreesExcludedSaid : Prop := subtreesExcludedRow.holds Try.pinned (OpenSpec.ofChange subtreesExcludedSpec)

/-- ITS FALSE NEIGHBOUR: 'it returns false'. Refute it at one input. -/
def subtreesExcludedWrong : ChangeSpec := { name := "subtreesExcluded", fn := fun _ => fun
  | [d1, d2, d3] => { results := [.lit (.bool false)], args := [d1, d2, d3] }
  | _ => none }
def SubtreesExcludedWrongFalsely : Prop := subtreesExcludedRow.holds Try.pinned (OpenSpec.ofChange subtreesExcludedWrong)

/-- 'warderlaw21.PrincsKnown': WHATEVER THE INPUT: true; the input reads as it did. -/
def princsKnownSpec : ChangeSpec := { name := "princsKnown", fn := fun _ => fun
  | [d1, d2, d3] => { results := [.lit (.bool true)], args := [d1, d2, d3] }
  | _ => none }
def princsKnownRow : OpenClaim := { program := "ytalcfnhcenpniaa", sum := "3fb1368fc48b6bbab06a4908000b4d1b0bd9b8718719c0d1de8f37b2309f75e6", func := "warder/warderlaw21.PrincsKnown", spec := "princsKnown", inPlace := ["internal/abi.NoEscape"], unfollowed := true, recurses := true, apart := false }
def PrincsKnownSaid : Prop := princsKnownRow.holds Try.pinned (OpenSpec.ofChange princsKnownSpec)

/-- ITS FALSE NEIGHBOUR: 'it returns false'. Refute it at one input. -/
def princsKnownWrong : ChangeSpec := { name := "princsKnown", fn := fun _ => fun
  | [d1, d2, d3] => { results := [.lit (.bool false)], args := [d1, d2, d3] }
  | _ => none }
def PrincsKnownWrongFalsely : Prop := princsKnownRow.holds Try.pinned (OpenSpec.ofChange princsKnownWrong)

/-- 'warderlaw21.PrincsTell': WHATEVER THE INPUT: true; the input reads as it did. -/
def princsTellSpec : ChangeSpec := { name := "princsTell", fn := fun _ => fun
  | [d1, d2, d3, d4] => { results := [.lit (.bool true)], args := [d1, d2, d3, d4] }
  | _ => none }
def princsTellRow : OpenClaim := { program := "ytalcfnhcenpniaa", sum := "3fb1368fc48b6bbab06a4908000b4d1b0bd9b8718719c0d1de8f37b2309f75e6", func := "warder/warderlaw21.PrincsTell", spec := "princsTell", inPlace := ["internal/abi.NoEscape"], unfollowed := true, recurses := true, apart := false }
def PrincsTellSaid : Prop := princsTellRow.holds Try.pinned (OpenSpec.ofChange princsTellSpec)

/-- ITS FALSE NEIGHBOUR: 'it returns false'. Refute it at one input. -/
def princsTellWrong : ChangeSpec := { name := "princsTell", fn := fun _ => fun
  | [d1, d2, d3, d4] => { results := [.lit (.bool false)], args := [d1, d2, d3, d4] }
  | _ => none }
def PrincsTellWrongFalsely : Prop := princsTellRow.holds Try.pinned (OpenSpec.ofChange princsTellWrong)

/-- 'warderlaw21.PrincsRules': WHATEVER THE INPUT: true; the input reads as it did. -/
def princsRulesSpec : ChangeSpec := { name := "princsRules", fn := fun _ => fun
  | [d1, d2, d3, d4] => { results := [.lit (.bool true)], args := [d1, d2, d3, d4] }
  | _ => none }
def princsRulesRow : OpenClaim := { program := "ytalcfnhcenpniaa", sum := "3fb1368fc48b6bbab06a4908000b4d1b0bd9b8718719c0d1de8f37b2309f75e6", func := "warder/warderlaw21.PrincsRules", spec := "princsRules", inPlace := ["internal/abi.NoEscape"], unfollowed := true, recurses := true, apart := false }
def PrincsRulesSaid : Prop := princsRulesRow.holds Try.pinned (OpenSpec.ofChange princsRulesSpec)

/-- ITS FALSE NEIGHBOUR: 'it returns false'. Refute it at one input. -/
def princsRulesWrong : ChangeSpec := { name := "princsRules", fn := fun _ => fun
  | [d1, d2, d3, d4] => { results := [.lit (.bool false)], args := [d1, d2, d3, d4] }
  | _ => none }
def PrincsRulesWrongFalsely : Prop := princsRulesRow.holds Try.pinned (OpenSpec.ofChange princsRulesWrong)

/- THE SECOND FORM. 'bulk': how many values and letters a reading holds, each counted each time it is reached (what is shared counts as often as it is met; a slice's spare places count too). A statement '..UptoSaid' is the law's where the arguments, and the package variables that the reading takes, are together of bulk at most 1048576: NARROWER than '..Said'. Prove '..Said' where nothing that the law and all that it calls make is longer than what came in: it says more and counts as full. Else prove '..UptoSaid'. A law counts once. -/
mutual
def uptoBulk {H : Type} : DataW H → Nat
  | .lit (.string bytes) => bytes.length + 1
  | .lit _ => 1
  | .nil => 1
  | .ptr d => uptoBulk d + 1
  | .slice elems spare => uptoBulkAll elems + uptoBulkAll spare + 1
  | .agg parts => uptoBulkAll parts + 1
  | .iface _ d => uptoBulk d + 1
  | .map entries => uptoBulkEntries entries + 1
  | .held _ => 1
def uptoBulkAll {H : Type} : List (DataW H) → Nat
  | [] => 0
  | d :: r => uptoBulk d + uptoBulkAll r
def uptoBulkEntries {H : Type} : List (Lit × DataW H) → Nat
  | [] => 0
  | x :: r => uptoBulkEntry x + uptoBulkEntries r
def uptoBulkEntry {H : Type} : Lit × DataW H → Nat
  | (.string bytes, d) => bytes.length + uptoBulk d + 1
  | (_, d) => uptoBulk d + 1
 end
def uptoSmall : (H : Type) → List (DataW H) → Bool := fun _ ds => decide (uptoBulkAll ds ≤ 1048576)
def OpenSpec.upto (s : _root_.Go.ChangeSpec) : _root_.Go.OpenSpec := { _root_.Go.OpenSpec.ofChange s with cond := some uptoSmall }

/-- 'warderlaw13.SubtreesAllow', WHERE WHAT IT READS IS OF BULK AT MOST 1048576: true; the input reads as it did. -/
def subtreesAllowUptoRow : OpenClaim := { program := "ytalcfnhcenpniaa", sum := "3fb1368fc48b6bbab06a4908000b4d1b0bd9b8718719c0d1de8f37b2309f75e6", func := "warder/warderlaw13.SubtreesAllow", spec := "subtreesAllow", inPlace := ["internal/abi.NoEscape"], unfollowed := true, recurses := true, apart := false, narrowed := true }
def SubtreesAllowUptoSaid : Prop := subtreesAllowUptoRow.holds Try.pinned (OpenSpec.upto subtreesAllowSpec)

/-- 'warderlaw13.SubtreesNarrow', WHERE WHAT IT READS IS OF BULK AT MOST 1048576: true; the input reads as it did. -/
def subtreesNarrowUptoRow : OpenClaim := { program := "ytalcfnhcenpniaa", sum := "3fb1368fc48b6bbab06a4908000b4d1b0bd9b8718719c0d1de8f37b2309f75e6", func := "warder/warderlaw13.SubtreesNarrow", spec := "subtreesNarrow", inPlace := ["internal/abi.NoEscape"], unfollowed := true, recurses := true, apart := false, narrowed := true }
def SubtreesNarrowUptoSaid : Prop := subtreesNarrowUptoRow.holds Try.pinned (OpenSpec.upto subtreesNarrowSpec)

/-- 'warderlaw13.SubtreesBelow', WHERE WHAT IT READS IS OF BULK AT MOST 1048576: true; the input reads as it did. -/
def subtreesBelowUptoRow : OpenClaim := { program := "ytalcfnhcenpniaa", sum := "3fb1368fc48b6bbab06a4908000b4d1b0bd9b8718719c0d1de8f37b2309f75e6", func := "warder/warderlaw13.SubtreesBelow", spec := "subtreesBelow", inPlace := ["internal/abi.NoEscape"], unfollowed := true, recurses := true, apart := false, narrowed := true }
def SubtreesBelowUptoSaid : Prop := subtreesBelowUptoRow.holds Try.pinned (OpenSpec.upto subtreesBelowSpec)

/-- 'warderlaw13.SubtreesExcluded', WHERE WHAT IT READS IS OF BULK AT MOST 1048576: true; the input reads as it did. -/
def subtreesExcludedUptoRow : OpenClaim := { program := "ytalcfnhcenpniaa", sum := "3fb1368fc48b6bbab06a4908000b4d1b0bd9b8718719c0d1de8f37b2309f75e6", func := "warder/warderlaw13.SubtreesExcluded", spec := "subtreesExcluded", inPlace := ["internal/abi.NoEscape"], unfollowed := true, recurses := true, apart := false, narrowed := true }
def SubtreesExcludedUptoSaid : Prop := subtreesExcludedUptoRow.holds Try.pinned (OpenSpec.upto subtreesExcludedSpec)

/-- 'warderlaw21.PrincsKnown', WHERE WHAT IT READS IS OF BULK AT MOST 1048576: true; the input reads as it did. -/
def princsKnownUptoRow : OpenClaim := { program := "ytalcfnhcenpniaa", sum := "3fb1368fc48b6bbab06a4908000b4d1b0bd9b8718719c0d1de8f37b2309f75e6", func := "warder/warderlaw21.PrincsKnown", spec := "princsKnown", inPlace := ["internal/abi.NoEscape"], unfollowed := true, recurses := true, apart := false, narrowed := true }
def PrincsKnownUptoSaid : Prop := princsKnownUptoRow.holds Try.pinned (OpenSpec.upto princsKnownSpec)

/-- 'warderlaw21.PrincsTell', WHERE WHAT IT READS IS OF BULK AT MOST 1048576: true; the input reads as it did. -/
def princsTellUptoRow : OpenClaim := { program := "ytalcfnhcenpniaa", sum := "3fb1368fc48b6bbab06a4908000b4d1b0bd9b8718719c0d1de8f37b2309f75e6", func := "warder/warderlaw21.PrincsTell", spec := "princsTell", inPlace := ["internal/abi.NoEscape"], unfollowed := true, recurses := true, apart := false, narrowed := true }
def PrincsTellUptoSaid : Prop := princsTellUptoRow.holds Try.pinned (OpenSpec.upto princsTellSpec)

/-- 'warderlaw21.PrincsRules', WHERE WHAT IT READS IS OF BULK AT MOST 1048576: true; the input reads as it did. -/
def princsRulesUptoRow : OpenClaim := { program := "ytalcfnhcenpniaa", sum := "3fb1368fc48b6bbab06a4908000b4d1b0bd9b8718719c0d1de8f37b2309f75e6", func := "warder/warderlaw21.PrincsRules", spec := "princsRules", inPlace := ["internal/abi.NoEscape"], unfollowed := true, recurses := true, apart := false, narrowed := true }
def PrincsRulesUptoSaid : Prop := princsRulesUptoRow.holds Try.pinned (OpenSpec.upto princsRulesSpec)

end Rows
end Go.Proofs.Ytalcfnhcenpniaa
