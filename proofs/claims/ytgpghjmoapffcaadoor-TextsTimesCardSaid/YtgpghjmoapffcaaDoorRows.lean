/-
  NARROWER THAN 'FOR EVERY INPUT', by the rows' own cells (each row's printed sentence says how): TextsRight: laid · TextsPreps: laid · TextsAlike: laid · TextsDays: laid · TextsKinds: laid · TextsJoined: laid · TextsYears: laid · TextsTimes: laid · TextsBack: laid.
  DERIVED. THE GIVEN ROWS OF THIS SEAT. 9 by the template 'for every input the law returns true; each argument reads behind the call as it read before'; 0 by the template 'total and deterministic' (their statements: YtgpghjmoapffcaaDoorTotals.lean).
  GIVEN WITH THE SEED: the statements are not yours to turn. If you find one false, say at which input.
  Laid BY PROGRAM, IN A SANDBOX (cutbox-rows.mjs): the forced cells as the released guide's own fill.sh prints them over the translation ec89da6aef1df8a9… (all of the seat's roots in one cut). By AI agents, Wed Nov 11 2026. No macro, syntax, notation, axiom, sorry.
-/
import Derived.Test.YtgpghjmoapffcaaDoorChecked
import GoSem.PinnedTables
import GoSem.Claim
import GoSem.ClaimJoined
import GoSem.ClaimMapViews
import Derived.JoinedTies
import Derived.KernelRfl
namespace Go.Proofs.YtgpghjmoapffcaaDoor
/- THE CELL 'sum', in the pinned program and in every row, IS THE sha256 OF THE DUMP (.gsa) THAT YtgpghjmoapffcaaDoorProg.lean LOADS. Nothing in Lean hashes anything: it is a label: what it is worth is what the hold of that sum in a sandbox is worth. -/
noncomputable def Tryd.pinned : Pinned := { name := "ytgpghjmoapffcaadoor", sum := "ec89da6aef1df8a904190abbc9df6669fe9e9a7273ba983f08513977b488a93c", checked := Tryd.checked }
namespace Rows
def none {H : Type} : Left H := { results := [], args := [] }

/- WHAT THE LISTED PACKAGE-LEVEL VARIABLES READ AS WHEN THE CALL BEGINS. Each datum BY PROGRAM (the guide's laid-datum.mjs) off the statement by which the dump's own 'gosem.cut.vars' lays the variable. In a bare row this is a premise. The card (YtgpghjmoapffcaaDoorCards.lean) ties it to the program's text. -/
def laid_unicode_utf8_acceptRanges {H : Type} : DataW H := .agg [.agg [.lit (.int .u8 128), .lit (.int .u8 191)], .agg [.lit (.int .u8 160), .lit (.int .u8 191)], .agg [.lit (.int .u8 128), .lit (.int .u8 159)], .agg [.lit (.int .u8 144), .lit (.int .u8 191)], .agg [.lit (.int .u8 128), .lit (.int .u8 143)], .agg [.lit (.int .u8 0), .lit (.int .u8 0)], .agg [.lit (.int .u8 0), .lit (.int .u8 0)], .agg [.lit (.int .u8 0), .lit (.int .u8 0)], .agg [.lit (.int .u8 0), .lit (.int .u8 0)], .agg [.lit (.int .u8 0), .lit (.int .u8 0)], .agg [.lit (.int .u8 0), .lit (.int .u8 0)], .agg [.lit (.int .u8 0), .lit (.int .u8 0)], .agg [.lit (.int .u8 0), .lit (.int .u8 0)], .agg [.lit (.int .u8 0), .lit (.int .u8 0)], .agg [.lit (.int .u8 0), .lit (.int .u8 0)], .agg [.lit (.int .u8 0), .lit (.int .u8 0)]]
/-- One of Go's own tables, pinned by name: the form's constant. -/
def laid_unicode_utf8_first : DataW Unit := Go.Pinned.utf8First

/-- 'warderlaw03.TextsRight': WHATEVER THE INPUT: true; the input reads as it did. -/
def textsRightSpec : ChangeSpec := { name := "textsRight", fn := fun _ => fun
  | [d1, d2] => { results := [.lit (.bool true)], args := [d1, d2] }
  | _ => none }
def textsRightRow : OpenClaim := { program := "ytgpghjmoapffcaadoor", sum := "ec89da6aef1df8a904190abbc9df6669fe9e9a7273ba983f08513977b488a93c", func := "warder/warderlaw03.TextsRight", spec := "textsRight", inPlace := ["internal/abi.NoEscape", "internal/bytealg.IndexByteString"], unfollowed := true, recurses := true, named := ["unicode/utf8.first", "unicode/utf8.acceptRanges"], apart := false, laid := [("unicode/utf8.acceptRanges", laid_unicode_utf8_acceptRanges), ("unicode/utf8.first", laid_unicode_utf8_first)] }
def TextsRightSaid : Prop := textsRightRow.holds Tryd.pinned (OpenSpec.ofChange textsRightSpec)

/-- ITS FALSE NEIGHBOUR: 'it returns false'. Refute it at one input. -/
def textsRightWrong : ChangeSpec := { name := "textsRight", fn := fun _ => fun
  | [d1, d2] => { results := [.lit (.bool false)], args := [d1, d2] }
  | _ => none }
def TextsRightWrongFalsely : Prop := textsRightRow.holds Tryd.pinned (OpenSpec.ofChange textsRightWrong)

/-- 'warderlaw03.TextsPreps': WHATEVER THE INPUT: true; the input reads as it did. -/
def textsPrepsSpec : ChangeSpec := { name := "textsPreps", fn := fun _ => fun
  | [d] => { results := [.lit (.bool true)], args := [d] }
  | _ => none }
def textsPrepsRow : OpenClaim := { program := "ytgpghjmoapffcaadoor", sum := "ec89da6aef1df8a904190abbc9df6669fe9e9a7273ba983f08513977b488a93c", func := "warder/warderlaw03.TextsPreps", spec := "textsPreps", inPlace := ["internal/abi.NoEscape", "internal/bytealg.IndexByteString"], unfollowed := true, recurses := true, named := ["unicode/utf8.first", "unicode/utf8.acceptRanges"], apart := false, laid := [("unicode/utf8.acceptRanges", laid_unicode_utf8_acceptRanges), ("unicode/utf8.first", laid_unicode_utf8_first)] }
def TextsPrepsSaid : Prop := textsPrepsRow.holds Tryd.pinned (OpenSpec.ofChange textsPrepsSpec)

/-- ITS FALSE NEIGHBOUR: 'it returns false'. Refute it at one input. -/
def textsPrepsWrong : ChangeSpec := { name := "textsPreps", fn := fun _ => fun
  | [d] => { results := [.lit (.bool false)], args := [d] }
  | _ => none }
def TextsPrepsWrongFalsely : Prop := textsPrepsRow.holds Tryd.pinned (OpenSpec.ofChange textsPrepsWrong)

/-- 'warderlaw03.TextsAlike': WHATEVER THE INPUT: true; the input reads as it did. -/
def textsAlikeSpec : ChangeSpec := { name := "textsAlike", fn := fun _ => fun
  | [d1, d2, d3] => { results := [.lit (.bool true)], args := [d1, d2, d3] }
  | _ => none }
def textsAlikeRow : OpenClaim := { program := "ytgpghjmoapffcaadoor", sum := "ec89da6aef1df8a904190abbc9df6669fe9e9a7273ba983f08513977b488a93c", func := "warder/warderlaw03.TextsAlike", spec := "textsAlike", inPlace := ["internal/abi.NoEscape", "internal/bytealg.IndexByteString"], unfollowed := true, recurses := true, named := ["unicode/utf8.first", "unicode/utf8.acceptRanges"], apart := false, laid := [("unicode/utf8.acceptRanges", laid_unicode_utf8_acceptRanges), ("unicode/utf8.first", laid_unicode_utf8_first)] }
def TextsAlikeSaid : Prop := textsAlikeRow.holds Tryd.pinned (OpenSpec.ofChange textsAlikeSpec)

/-- ITS FALSE NEIGHBOUR: 'it returns false'. Refute it at one input. -/
def textsAlikeWrong : ChangeSpec := { name := "textsAlike", fn := fun _ => fun
  | [d1, d2, d3] => { results := [.lit (.bool false)], args := [d1, d2, d3] }
  | _ => none }
def TextsAlikeWrongFalsely : Prop := textsAlikeRow.holds Tryd.pinned (OpenSpec.ofChange textsAlikeWrong)

/-- 'warderlaw03.TextsDays': WHATEVER THE INPUT: true; the input reads as it did. -/
def textsDaysSpec : ChangeSpec := { name := "textsDays", fn := fun _ => fun
  | [d] => { results := [.lit (.bool true)], args := [d] }
  | _ => none }
def textsDaysRow : OpenClaim := { program := "ytgpghjmoapffcaadoor", sum := "ec89da6aef1df8a904190abbc9df6669fe9e9a7273ba983f08513977b488a93c", func := "warder/warderlaw03.TextsDays", spec := "textsDays", inPlace := ["internal/abi.NoEscape", "internal/bytealg.IndexByteString"], unfollowed := true, recurses := true, named := ["unicode/utf8.first", "unicode/utf8.acceptRanges"], apart := false, laid := [("unicode/utf8.acceptRanges", laid_unicode_utf8_acceptRanges), ("unicode/utf8.first", laid_unicode_utf8_first)] }
def TextsDaysSaid : Prop := textsDaysRow.holds Tryd.pinned (OpenSpec.ofChange textsDaysSpec)

/-- ITS FALSE NEIGHBOUR: 'it returns false'. Refute it at one input. -/
def textsDaysWrong : ChangeSpec := { name := "textsDays", fn := fun _ => fun
  | [d] => { results := [.lit (.bool false)], args := [d] }
  | _ => none }
def TextsDaysWrongFalsely : Prop := textsDaysRow.holds Tryd.pinned (OpenSpec.ofChange textsDaysWrong)

/-- 'warderlaw03.TextsKinds': WHATEVER THE INPUT: true; the input reads as it did. -/
def textsKindsSpec : ChangeSpec := { name := "textsKinds", fn := fun _ => fun
  | [d] => { results := [.lit (.bool true)], args := [d] }
  | _ => none }
def textsKindsRow : OpenClaim := { program := "ytgpghjmoapffcaadoor", sum := "ec89da6aef1df8a904190abbc9df6669fe9e9a7273ba983f08513977b488a93c", func := "warder/warderlaw03.TextsKinds", spec := "textsKinds", inPlace := ["internal/abi.NoEscape", "internal/bytealg.IndexByteString"], unfollowed := true, recurses := true, named := ["unicode/utf8.first", "unicode/utf8.acceptRanges"], apart := false, laid := [("unicode/utf8.acceptRanges", laid_unicode_utf8_acceptRanges), ("unicode/utf8.first", laid_unicode_utf8_first)] }
def TextsKindsSaid : Prop := textsKindsRow.holds Tryd.pinned (OpenSpec.ofChange textsKindsSpec)

/-- ITS FALSE NEIGHBOUR: 'it returns false'. Refute it at one input. -/
def textsKindsWrong : ChangeSpec := { name := "textsKinds", fn := fun _ => fun
  | [d] => { results := [.lit (.bool false)], args := [d] }
  | _ => none }
def TextsKindsWrongFalsely : Prop := textsKindsRow.holds Tryd.pinned (OpenSpec.ofChange textsKindsWrong)

/-- 'warderlaw03.TextsJoined': WHATEVER THE INPUT: true; the input reads as it did. -/
def textsJoinedSpec : ChangeSpec := { name := "textsJoined", fn := fun _ => fun
  | [d1, d2] => { results := [.lit (.bool true)], args := [d1, d2] }
  | _ => none }
def textsJoinedRow : OpenClaim := { program := "ytgpghjmoapffcaadoor", sum := "ec89da6aef1df8a904190abbc9df6669fe9e9a7273ba983f08513977b488a93c", func := "warder/warderlaw03.TextsJoined", spec := "textsJoined", inPlace := ["internal/abi.NoEscape", "internal/bytealg.IndexByteString"], unfollowed := true, recurses := true, named := ["unicode/utf8.first", "unicode/utf8.acceptRanges"], apart := false, laid := [("unicode/utf8.acceptRanges", laid_unicode_utf8_acceptRanges), ("unicode/utf8.first", laid_unicode_utf8_first)] }
def TextsJoinedSaid : Prop := textsJoinedRow.holds Tryd.pinned (OpenSpec.ofChange textsJoinedSpec)

/-- ITS FALSE NEIGHBOUR: 'it returns false'. Refute it at one input. -/
def textsJoinedWrong : ChangeSpec := { name := "textsJoined", fn := fun _ => fun
  | [d1, d2] => { results := [.lit (.bool false)], args := [d1, d2] }
  | _ => none }
def TextsJoinedWrongFalsely : Prop := textsJoinedRow.holds Tryd.pinned (OpenSpec.ofChange textsJoinedWrong)

/-- 'warderlaw03.TextsYears': WHATEVER THE INPUT: true; the input reads as it did. -/
def textsYearsSpec : ChangeSpec := { name := "textsYears", fn := fun _ => fun
  | [d] => { results := [.lit (.bool true)], args := [d] }
  | _ => none }
def textsYearsRow : OpenClaim := { program := "ytgpghjmoapffcaadoor", sum := "ec89da6aef1df8a904190abbc9df6669fe9e9a7273ba983f08513977b488a93c", func := "warder/warderlaw03.TextsYears", spec := "textsYears", inPlace := ["internal/abi.NoEscape", "internal/bytealg.IndexByteString"], unfollowed := true, recurses := true, named := ["unicode/utf8.first", "unicode/utf8.acceptRanges"], apart := false, laid := [("unicode/utf8.acceptRanges", laid_unicode_utf8_acceptRanges), ("unicode/utf8.first", laid_unicode_utf8_first)] }
def TextsYearsSaid : Prop := textsYearsRow.holds Tryd.pinned (OpenSpec.ofChange textsYearsSpec)

/-- ITS FALSE NEIGHBOUR: 'it returns false'. Refute it at one input. -/
def textsYearsWrong : ChangeSpec := { name := "textsYears", fn := fun _ => fun
  | [d] => { results := [.lit (.bool false)], args := [d] }
  | _ => none }
def TextsYearsWrongFalsely : Prop := textsYearsRow.holds Tryd.pinned (OpenSpec.ofChange textsYearsWrong)

/-- 'warderlaw03.TextsTimes': WHATEVER THE INPUT: true; the input reads as it did. -/
def textsTimesSpec : ChangeSpec := { name := "textsTimes", fn := fun _ => fun
  | [d1, d2, d3] => { results := [.lit (.bool true)], args := [d1, d2, d3] }
  | _ => none }
def textsTimesRow : OpenClaim := { program := "ytgpghjmoapffcaadoor", sum := "ec89da6aef1df8a904190abbc9df6669fe9e9a7273ba983f08513977b488a93c", func := "warder/warderlaw03.TextsTimes", spec := "textsTimes", inPlace := ["internal/abi.NoEscape", "internal/bytealg.IndexByteString"], unfollowed := true, recurses := true, named := ["unicode/utf8.first", "unicode/utf8.acceptRanges"], apart := false, laid := [("unicode/utf8.acceptRanges", laid_unicode_utf8_acceptRanges), ("unicode/utf8.first", laid_unicode_utf8_first)] }
def TextsTimesSaid : Prop := textsTimesRow.holds Tryd.pinned (OpenSpec.ofChange textsTimesSpec)

/-- ITS FALSE NEIGHBOUR: 'it returns false'. Refute it at one input. -/
def textsTimesWrong : ChangeSpec := { name := "textsTimes", fn := fun _ => fun
  | [d1, d2, d3] => { results := [.lit (.bool false)], args := [d1, d2, d3] }
  | _ => none }
def TextsTimesWrongFalsely : Prop := textsTimesRow.holds Tryd.pinned (OpenSpec.ofChange textsTimesWrong)

/-- 'warderlaw03.TextsBack': WHATEVER THE INPUT: true; the input reads as it did. -/
def textsBackSpec : ChangeSpec := { name := "textsBack", fn := fun _ => fun
  | [d1, d2, d3, d4] => { results := [.lit (.bool true)], args := [d1, d2, d3, d4] }
  | _ => none }
def textsBackRow : OpenClaim := { program := "ytgpghjmoapffcaadoor", sum := "ec89da6aef1df8a904190abbc9df6669fe9e9a7273ba983f08513977b488a93c", func := "warder/warderlaw03.TextsBack", spec := "textsBack", inPlace := ["internal/abi.NoEscape", "internal/bytealg.IndexByteString"], unfollowed := true, recurses := true, named := ["unicode/utf8.first", "unicode/utf8.acceptRanges"], apart := false, laid := [("unicode/utf8.acceptRanges", laid_unicode_utf8_acceptRanges), ("unicode/utf8.first", laid_unicode_utf8_first)] }
def TextsBackSaid : Prop := textsBackRow.holds Tryd.pinned (OpenSpec.ofChange textsBackSpec)

/-- ITS FALSE NEIGHBOUR: 'it returns false'. Refute it at one input. -/
def textsBackWrong : ChangeSpec := { name := "textsBack", fn := fun _ => fun
  | [d1, d2, d3, d4] => { results := [.lit (.bool false)], args := [d1, d2, d3, d4] }
  | _ => none }
def TextsBackWrongFalsely : Prop := textsBackRow.holds Tryd.pinned (OpenSpec.ofChange textsBackWrong)

/- THE SECOND FORM. 'bulk': how many values and letters a reading holds, each counted each time it is reached (what is shared counts as often as it is met; a slice's spare places count too). A statement '..UptoSaid' is the law's where the arguments, and the package variables that the reading takes, are together of bulk at most 1048576: NARROWER than '..Said'. Prove '..Said' where nothing that the law and all that it calls make is longer than what came in: it says more and counts as full. Else prove '..UptoSaid'. A law counts once. -/
mutual
def uptoBulk {H : Type} : DataW H → Nat
  | .lit (.string bytes) => bytes.length + 1
  | .lit _ => 1
  | .nil => 1
  | .ptr d => uptoBulk d + 1
  | .slice elems spare => uptoBulkAll elems + uptoBulkAll spare + 1
  | .agg parts => uptoBulkAll parts + 1
  | .iface _ d => uptoBulk d + 1
  | .map entries => uptoBulkEntries entries + 1
  | .held _ => 1
def uptoBulkAll {H : Type} : List (DataW H) → Nat
  | [] => 0
  | d :: r => uptoBulk d + uptoBulkAll r
def uptoBulkEntries {H : Type} : List (Lit × DataW H) → Nat
  | [] => 0
  | x :: r => uptoBulkEntry x + uptoBulkEntries r
def uptoBulkEntry {H : Type} : Lit × DataW H → Nat
  | (.string bytes, d) => bytes.length + uptoBulk d + 1
  | (_, d) => uptoBulk d + 1
 end
def uptoSmall : (H : Type) → List (DataW H) → Bool := fun _ ds => decide (uptoBulkAll ds ≤ 1048576)
def OpenSpec.upto (s : _root_.Go.ChangeSpec) : _root_.Go.OpenSpec := { _root_.Go.OpenSpec.ofChange s with cond := some uptoSmall }

/-- 'warderlaw03.TextsRight', WHERE WHAT IT READS IS OF BULK AT MOST 1048576: true; the input reads as it did. -/
def textsRightUptoRow : OpenClaim := { program := "ytgpghjmoapffcaadoor", sum := "ec89da6aef1df8a904190abbc9df6669fe9e9a7273ba983f08513977b488a93c", func := "warder/warderlaw03.TextsRight", spec := "textsRight", inPlace := ["internal/abi.NoEscape", "internal/bytealg.IndexByteString"], unfollowed := true, recurses := true, named := ["unicode/utf8.first", "unicode/utf8.acceptRanges"], apart := false, laid := [("unicode/utf8.acceptRanges", laid_unicode_utf8_acceptRanges), ("unicode/utf8.first", laid_unicode_utf8_first)], narrowed := true }
def TextsRightUptoSaid : Prop := textsRightUptoRow.holds Tryd.pinned (OpenSpec.upto textsRightSpec)

/-- 'warderlaw03.TextsPreps', WHERE WHAT IT READS IS OF BULK AT MOST 1048576: true; the input reads as it did. -/
def textsPrepsUptoRow : OpenClaim := { program := "ytgpghjmoapffcaadoor", sum := "ec89da6aef1df8a904190abbc9df6669fe9e9a7273ba983f08513977b488a93c", func := "warder/warderlaw03.TextsPreps", spec := "textsPreps", inPlace := ["internal/abi.NoEscape", "internal/bytealg.IndexByteString"], unfollowed := true, recurses := true, named := ["unicode/utf8.first", "unicode/utf8.acceptRanges"], apart := false, laid := [("unicode/utf8.acceptRanges", laid_unicode_utf8_acceptRanges), ("unicode/utf8.first", laid_unicode_utf8_first)], narrowed := true }
def TextsPrepsUptoSaid : Prop := textsPrepsUptoRow.holds Tryd.pinned (OpenSpec.upto textsPrepsSpec)

/-- 'warderlaw03.TextsAlike', WHERE WHAT IT READS IS OF BULK AT MOST 1048576: true; the input reads as it did. -/
def textsAlikeUptoRow : OpenClaim := { program := "ytgpghjmoapffcaadoor", sum := "ec89da6aef1df8a904190abbc9df6669fe9e9a7273ba983f08513977b488a93c", func := "warder/warderlaw03.TextsAlike", spec := "textsAlike", inPlace := ["internal/abi.NoEscape", "internal/bytealg.IndexByteString"], unfollowed := true, recurses := true, named := ["unicode/utf8.first", "unicode/utf8.acceptRanges"], apart := false, laid := [("unicode/utf8.acceptRanges", laid_unicode_utf8_acceptRanges), ("unicode/utf8.first", laid_unicode_utf8_first)], narrowed := true }
def TextsAlikeUptoSaid : Prop := textsAlikeUptoRow.holds Tryd.pinned (OpenSpec.upto textsAlikeSpec)

/-- 'warderlaw03.TextsDays', WHERE WHAT IT READS IS OF BULK AT MOST 1048576: true; the input reads as it did. -/
def textsDaysUptoRow : OpenClaim := { program := "ytgpghjmoapffcaadoor", sum := "ec89da6aef1df8a904190abbc9df6669fe9e9a7273ba983f08513977b488a93c", func := "warder/warderlaw03.TextsDays", spec := "textsDays", inPlace := ["internal/abi.NoEscape", "internal/bytealg.IndexByteString"], unfollowed := true, recurses := true, named := ["unicode/utf8.first", "unicode/utf8.acceptRanges"], apart := false, laid := [("unicode/utf8.acceptRanges", laid_unicode_utf8_acceptRanges), ("unicode/utf8.first", laid_unicode_utf8_first)], narrowed := true }
def TextsDaysUptoSaid : Prop := textsDaysUptoRow.holds Tryd.pinned (OpenSpec.upto textsDaysSpec)

/-- 'warderlaw03.TextsKinds', WHERE WHAT IT READS IS OF BULK AT MOST 1048576: true; the input reads as it did. -/
def textsKindsUptoRow : OpenClaim := { program := "ytgpghjmoapffcaadoor", sum := "ec89da6aef1df8a904190abbc9df6669fe9e9a7273ba983f08513977b488a93c", func := "warder/warderlaw03.TextsKinds", spec := "textsKinds", inPlace := ["internal/abi.NoEscape", "internal/bytealg.IndexByteString"], unfollowed := true, recurses := true, named := ["unicode/utf8.first", "unicode/utf8.acceptRanges"], apart := false, laid := [("unicode/utf8.acceptRanges", laid_unicode_utf8_acceptRanges), ("unicode/utf8.first", laid_unicode_utf8_first)], narrowed := true }
def TextsKindsUptoSaid : Prop := textsKindsUptoRow.holds Tryd.pinned (OpenSpec.upto textsKindsSpec)

/-- 'warderlaw03.TextsJoined', WHERE WHAT IT READS IS OF BULK AT MOST 1048576: true; the input reads as it did. -/
def textsJoinedUptoRow : OpenClaim := { program := "ytgpghjmoapffcaadoor", sum := "ec89da6aef1df8a904190abbc9df6669fe9e9a7273ba983f08513977b488a93c", func := "warder/warderlaw03.TextsJoined", spec := "textsJoined", inPlace := ["internal/abi.NoEscape", "internal/bytealg.IndexByteString"], unfollowed := true, recurses := true, named := ["unicode/utf8.first", "unicode/utf8.acceptRanges"], apart := false, laid := [("unicode/utf8.acceptRanges", laid_unicode_utf8_acceptRanges), ("unicode/utf8.first", laid_unicode_utf8_first)], narrowed := true }
def TextsJoinedUptoSaid : Prop := textsJoinedUptoRow.holds Tryd.pinned (OpenSpec.upto textsJoinedSpec)

/-- 'warderlaw03.TextsYears', WHERE WHAT IT READS IS OF BULK AT MOST 1048576: true; the input reads as it did. -/
def textsYearsUptoRow : OpenClaim := { program := "ytgpghjmoapffcaadoor", sum := "ec89da6aef1df8a904190abbc9df6669fe9e9a7273ba983f08513977b488a93c", func := "warder/warderlaw03.TextsYears", spec := "textsYears", inPlace := ["internal/abi.NoEscape", "internal/bytealg.IndexByteString"], unfollowed := true, recurses := true, named := ["unicode/utf8.first", "unicode/utf8.acceptRanges"], apart := false, laid := [("unicode/utf8.acceptRanges", laid_unicode_utf8_acceptRanges), ("unicode/utf8.first", laid_unicode_utf8_first)], narrowed := true }
def TextsYearsUptoSaid : Prop := textsYearsUptoRow.holds Tryd.pinned (OpenSpec.upto textsYearsSpec)

/-- 'warderlaw03.TextsTimes', WHERE WHAT IT READS IS OF BULK AT MOST 1048576: true; the input reads as it did. -/
def textsTimesUptoRow : OpenClaim := { program := "ytgpghjmoapffcaadoor", sum := "ec89da6aef1df8a904190abbc9df6669fe9e9a7273ba983f08513977b488a93c", func := "warder/warderlaw03.TextsTimes", spec := "textsTimes", inPlace := ["internal/abi.NoEscape", "internal/bytealg.IndexByteString"], unfollowed := true, recurses := true, named := ["unicode/utf8.first", "unicode/utf8.acceptRanges"], apart := false, laid := [("unicode/utf8.acceptRanges", laid_unicode_utf8_acceptRanges), ("unicode/utf8.first", laid_unicode_utf8_first)], narrowed := true }
def TextsTimesUptoSaid : Prop := textsTimesUptoRow.holds Tryd.pinned (OpenSpec.upto textsTimesSpec)

/-- 'warderlaw03.TextsBack', WHERE WHAT IT READS IS OF BULK AT MOST 1048576: true; the input reads as it did. -/
def textsBackUptoRow : OpenClaim := { program := "ytgpghjmoapffcaadoor", sum := "ec89da6aef1df8a904190abbc9df6669fe9e9a7273ba983f08513977b488a93c", func := "warder/warderlaw03.TextsBack", spec := "textsBack", inPlace := ["internal/abi.NoEscape", "internal/bytealg.IndexByteString"], unfollowed := true, recurses := true, named := ["unicode/utf8.first", "unicode/utf8.acceptRanges"], apart := false, laid := [("unicode/utf8.acceptRanges", laid_unicode_utf8_acceptRanges), ("unicode/utf8.first", laid_unicode_utf8_first)], narrowed := true }
def TextsBackUptoSaid : Prop := textsBackUptoRow.holds Tryd.pinned (OpenSpec.upto textsBackSpec)

end Rows
end Go.Proofs.YtgpghjmoapffcaaDoor
