/-
  NARROWER THAN 'FOR EVERY INPUT', by the rows' own cells (each row's printed sentence says how): NamesPut: laid · NamesSame: laid · NamesUnder: laid · NamesFolded: laid · KrbTexts: laid · KrbSigns: laid · KrbUnlike: laid.
  DERIVED. THE GIVEN ROWS OF THIS SEAT. 7 by the template 'for every input the law returns true; each argument reads behind the call as it read before'; 0 by the template 'total and deterministic' (their statements: YtpbbcjkbeodeiaaDoorTotals.lean).
  GIVEN WITH THE SEED: the statements are not yours to turn. If you find one false, say at which input.
  Laid BY PROGRAM, IN A SANDBOX (cutbox-rows.mjs): the forced cells as the released guide's own fill.sh prints them over the translation 054667b7136b1e13… (all of the seat's roots in one cut). By AI agents, Wed Nov 11 2026. No macro, syntax, notation, axiom, sorry.
-/
import Derived.Test.YtpbbcjkbeodeiaaDoorChecked
import GoSem.PinnedTables
import GoSem.Claim
import GoSem.ClaimJoined
import GoSem.ClaimMapViews
import Derived.JoinedTies
import Derived.KernelRfl
namespace Go.Proofs.YtpbbcjkbeodeiaaDoor
/- THE CELL 'sum', in the pinned program and in every row, IS THE sha256 OF THE DUMP (.gsa) THAT YtpbbcjkbeodeiaaDoorProg.lean LOADS. Nothing in Lean hashes anything: it is a label: what it is worth is what the hold of that sum in a sandbox is worth. -/
noncomputable def Tryd.pinned : Pinned := { name := "ytpbbcjkbeodeiaadoor", sum := "054667b7136b1e13e139d286e8d78e7a87e9b917d2dab50852db770270ac97f7", checked := Tryd.checked }
namespace Rows
def none {H : Type} : Left H := { results := [], args := [] }

/- WHAT THE LISTED PACKAGE-LEVEL VARIABLES READ AS WHEN THE CALL BEGINS. Each datum BY PROGRAM (the guide's laid-datum.mjs) off the statement by which the dump's own 'gosem.cut.vars' lays the variable. In a bare row this is a premise. The card (YtpbbcjkbeodeiaaDoorCards.lean) ties it to the program's text. -/
def laid_unicode_utf8_acceptRanges {H : Type} : DataW H := .agg [.agg [.lit (.int .u8 128), .lit (.int .u8 191)], .agg [.lit (.int .u8 160), .lit (.int .u8 191)], .agg [.lit (.int .u8 128), .lit (.int .u8 159)], .agg [.lit (.int .u8 144), .lit (.int .u8 191)], .agg [.lit (.int .u8 128), .lit (.int .u8 143)], .agg [.lit (.int .u8 0), .lit (.int .u8 0)], .agg [.lit (.int .u8 0), .lit (.int .u8 0)], .agg [.lit (.int .u8 0), .lit (.int .u8 0)], .agg [.lit (.int .u8 0), .lit (.int .u8 0)], .agg [.lit (.int .u8 0), .lit (.int .u8 0)], .agg [.lit (.int .u8 0), .lit (.int .u8 0)], .agg [.lit (.int .u8 0), .lit (.int .u8 0)], .agg [.lit (.int .u8 0), .lit (.int .u8 0)], .agg [.lit (.int .u8 0), .lit (.int .u8 0)], .agg [.lit (.int .u8 0), .lit (.int .u8 0)], .agg [.lit (.int .u8 0), .lit (.int .u8 0)]]
/-- One of Go's own tables, pinned by name: the form's constant. -/
def laid_unicode_utf8_first : DataW Unit := Go.Pinned.utf8First

/-- 'warderlaw09.NamesPut': WHATEVER THE INPUT: true; the input reads as it did. -/
def namesPutSpec : ChangeSpec := { name := "namesPut", fn := fun _ => fun
  | [d1, d2] => { results := [.lit (.bool true)], args := [d1, d2] }
  | _ => none }
def namesPutRow : OpenClaim := { program := "ytpbbcjkbeodeiaadoor", sum := "054667b7136b1e13e139d286e8d78e7a87e9b917d2dab50852db770270ac97f7", func := "warder/warderlaw09.NamesPut", spec := "namesPut", inPlace := ["internal/bytealg.IndexByteString", "internal/abi.NoEscape"], unfollowed := true, recurses := true, named := ["unicode/utf8.first", "unicode/utf8.acceptRanges"], apart := false, laid := [("unicode/utf8.acceptRanges", laid_unicode_utf8_acceptRanges), ("unicode/utf8.first", laid_unicode_utf8_first)] }
def NamesPutSaid : Prop := namesPutRow.holds Tryd.pinned (OpenSpec.ofChange namesPutSpec)

/-- ITS FALSE NEIGHBOUR: 'it returns false'. Refute it at one input. -/
def namesPutWrong : ChangeSpec := { name := "namesPut", fn := fun _ => fun
  | [d1, d2] => { results := [.lit (.bool false)], args := [d1, d2] }
  | _ => none }
def NamesPutWrongFalsely : Prop := namesPutRow.holds Tryd.pinned (OpenSpec.ofChange namesPutWrong)

/-- 'warderlaw09.NamesSame': WHATEVER THE INPUT: true; the input reads as it did. -/
def namesSameSpec : ChangeSpec := { name := "namesSame", fn := fun _ => fun
  | [d1, d2] => { results := [.lit (.bool true)], args := [d1, d2] }
  | _ => none }
def namesSameRow : OpenClaim := { program := "ytpbbcjkbeodeiaadoor", sum := "054667b7136b1e13e139d286e8d78e7a87e9b917d2dab50852db770270ac97f7", func := "warder/warderlaw09.NamesSame", spec := "namesSame", inPlace := ["internal/bytealg.IndexByteString", "internal/abi.NoEscape"], unfollowed := true, recurses := true, named := ["unicode/utf8.first", "unicode/utf8.acceptRanges"], apart := false, laid := [("unicode/utf8.acceptRanges", laid_unicode_utf8_acceptRanges), ("unicode/utf8.first", laid_unicode_utf8_first)] }
def NamesSameSaid : Prop := namesSameRow.holds Tryd.pinned (OpenSpec.ofChange namesSameSpec)

/-- ITS FALSE NEIGHBOUR: 'it returns false'. Refute it at one input. -/
def namesSameWrong : ChangeSpec := { name := "namesSame", fn := fun _ => fun
  | [d1, d2] => { results := [.lit (.bool false)], args := [d1, d2] }
  | _ => none }
def NamesSameWrongFalsely : Prop := namesSameRow.holds Tryd.pinned (OpenSpec.ofChange namesSameWrong)

/-- 'warderlaw09.NamesUnder': WHATEVER THE INPUT: true; the input reads as it did. -/
def namesUnderSpec : ChangeSpec := { name := "namesUnder", fn := fun _ => fun
  | [d1, d2, d3] => { results := [.lit (.bool true)], args := [d1, d2, d3] }
  | _ => none }
def namesUnderRow : OpenClaim := { program := "ytpbbcjkbeodeiaadoor", sum := "054667b7136b1e13e139d286e8d78e7a87e9b917d2dab50852db770270ac97f7", func := "warder/warderlaw09.NamesUnder", spec := "namesUnder", inPlace := ["internal/bytealg.IndexByteString", "internal/abi.NoEscape"], unfollowed := true, recurses := true, named := ["unicode/utf8.first", "unicode/utf8.acceptRanges"], apart := false, laid := [("unicode/utf8.acceptRanges", laid_unicode_utf8_acceptRanges), ("unicode/utf8.first", laid_unicode_utf8_first)] }
def NamesUnderSaid : Prop := namesUnderRow.holds Tryd.pinned (OpenSpec.ofChange namesUnderSpec)

/-- ITS FALSE NEIGHBOUR: 'it returns false'. Refute it at one input. -/
def namesUnderWrong : ChangeSpec := { name := "namesUnder", fn := fun _ => fun
  | [d1, d2, d3] => { results := [.lit (.bool false)], args := [d1, d2, d3] }
  | _ => none }
def NamesUnderWrongFalsely : Prop := namesUnderRow.holds Tryd.pinned (OpenSpec.ofChange namesUnderWrong)

/-- 'warderlaw09.NamesFolded': WHATEVER THE INPUT: true; the input reads as it did. -/
def namesFoldedSpec : ChangeSpec := { name := "namesFolded", fn := fun _ => fun
  | [d] => { results := [.lit (.bool true)], args := [d] }
  | _ => none }
def namesFoldedRow : OpenClaim := { program := "ytpbbcjkbeodeiaadoor", sum := "054667b7136b1e13e139d286e8d78e7a87e9b917d2dab50852db770270ac97f7", func := "warder/warderlaw09.NamesFolded", spec := "namesFolded", inPlace := ["internal/bytealg.IndexByteString", "internal/abi.NoEscape"], unfollowed := true, recurses := true, named := ["unicode/utf8.first", "unicode/utf8.acceptRanges"], apart := false, laid := [("unicode/utf8.acceptRanges", laid_unicode_utf8_acceptRanges), ("unicode/utf8.first", laid_unicode_utf8_first)] }
def NamesFoldedSaid : Prop := namesFoldedRow.holds Tryd.pinned (OpenSpec.ofChange namesFoldedSpec)

/-- ITS FALSE NEIGHBOUR: 'it returns false'. Refute it at one input. -/
def namesFoldedWrong : ChangeSpec := { name := "namesFolded", fn := fun _ => fun
  | [d] => { results := [.lit (.bool false)], args := [d] }
  | _ => none }
def NamesFoldedWrongFalsely : Prop := namesFoldedRow.holds Tryd.pinned (OpenSpec.ofChange namesFoldedWrong)

/-- 'warderlaw17.KrbTexts': WHATEVER THE INPUT: true; the input reads as it did. -/
def krbTextsSpec : ChangeSpec := { name := "krbTexts", fn := fun _ => fun
  | [d1, d2] => { results := [.lit (.bool true)], args := [d1, d2] }
  | _ => none }
def krbTextsRow : OpenClaim := { program := "ytpbbcjkbeodeiaadoor", sum := "054667b7136b1e13e139d286e8d78e7a87e9b917d2dab50852db770270ac97f7", func := "warder/warderlaw17.KrbTexts", spec := "krbTexts", inPlace := ["internal/bytealg.IndexByteString", "internal/abi.NoEscape"], unfollowed := true, recurses := true, named := ["unicode/utf8.first", "unicode/utf8.acceptRanges"], apart := false, laid := [("unicode/utf8.acceptRanges", laid_unicode_utf8_acceptRanges), ("unicode/utf8.first", laid_unicode_utf8_first)] }
def KrbTextsSaid : Prop := krbTextsRow.holds Tryd.pinned (OpenSpec.ofChange krbTextsSpec)

/-- ITS FALSE NEIGHBOUR: 'it returns false'. Refute it at one input. -/
def krbTextsWrong : ChangeSpec := { name := "krbTexts", fn := fun _ => fun
  | [d1, d2] => { results := [.lit (.bool false)], args := [d1, d2] }
  | _ => none }
def KrbTextsWrongFalsely : Prop := krbTextsRow.holds Tryd.pinned (OpenSpec.ofChange krbTextsWrong)

/-- 'warderlaw17.KrbSigns': WHATEVER THE INPUT: true; the input reads as it did. -/
def krbSignsSpec : ChangeSpec := { name := "krbSigns", fn := fun _ => fun
  | [d] => { results := [.lit (.bool true)], args := [d] }
  | _ => none }
def krbSignsRow : OpenClaim := { program := "ytpbbcjkbeodeiaadoor", sum := "054667b7136b1e13e139d286e8d78e7a87e9b917d2dab50852db770270ac97f7", func := "warder/warderlaw17.KrbSigns", spec := "krbSigns", inPlace := ["internal/bytealg.IndexByteString", "internal/abi.NoEscape"], unfollowed := true, recurses := true, named := ["unicode/utf8.first", "unicode/utf8.acceptRanges"], apart := false, laid := [("unicode/utf8.acceptRanges", laid_unicode_utf8_acceptRanges), ("unicode/utf8.first", laid_unicode_utf8_first)] }
def KrbSignsSaid : Prop := krbSignsRow.holds Tryd.pinned (OpenSpec.ofChange krbSignsSpec)

/-- ITS FALSE NEIGHBOUR: 'it returns false'. Refute it at one input. -/
def krbSignsWrong : ChangeSpec := { name := "krbSigns", fn := fun _ => fun
  | [d] => { results := [.lit (.bool false)], args := [d] }
  | _ => none }
def KrbSignsWrongFalsely : Prop := krbSignsRow.holds Tryd.pinned (OpenSpec.ofChange krbSignsWrong)

/-- 'warderlaw17.KrbUnlike': WHATEVER THE INPUT: true; the input reads as it did. -/
def krbUnlikeSpec : ChangeSpec := { name := "krbUnlike", fn := fun _ => fun
  | [d1, d2] => { results := [.lit (.bool true)], args := [d1, d2] }
  | _ => none }
def krbUnlikeRow : OpenClaim := { program := "ytpbbcjkbeodeiaadoor", sum := "054667b7136b1e13e139d286e8d78e7a87e9b917d2dab50852db770270ac97f7", func := "warder/warderlaw17.KrbUnlike", spec := "krbUnlike", inPlace := ["internal/bytealg.IndexByteString", "internal/abi.NoEscape"], unfollowed := true, recurses := true, named := ["unicode/utf8.first", "unicode/utf8.acceptRanges"], apart := false, laid := [("unicode/utf8.acceptRanges", laid_unicode_utf8_acceptRanges), ("unicode/utf8.first", laid_unicode_utf8_first)] }
def KrbUnlikeSaid : Prop := krbUnlikeRow.holds Tryd.pinned (OpenSpec.ofChange krbUnlikeSpec)

/-- ITS FALSE NEIGHBOUR: 'it returns false'. Refute it at one input. -/
def krbUnlikeWrong : ChangeSpec := { name := "krbUnlike", fn := fun _ => fun
  | [d1, d2] => { results := [.lit (.bool false)], args := [d1, d2] }
  | _ => none }
def KrbUnlikeWrongFalsely : Prop := krbUnlikeRow.holds Tryd.pinned (OpenSpec.ofChange krbUnlikeWrong)

/- THE SECOND FORM. 'bulk': how many values and letters a reading holds, each counted each time it is reached (what is shared counts as often as it is met; a slice's spare places count too). A statement '..UptoSaid' is the law's where the arguments, and the package variables that the reading takes, are together of bulk at most 1048576: NARROWER than '..Said'. Prove '..Said' where nothing that the law and all that it calls make is longer than what came in: it says more and counts as full. Else prove '..UptoSaid'. A law counts once. -/
mutual
def uptoBulk {H : Type} : DataW H → Nat
  | .lit (.string bytes) => bytes.length + 1
  | .lit _ => 1
  | .nil => 1
  | .ptr d => uptoBulk d + 1
  | .slice elems spare => uptoBulkAll elems + uptoBulkAll spare + 1
  | .agg parts => uptoBulkAll parts + 1
  | .iface _ d => uptoBulk d + 1
  | .map entries => uptoBulkEntries entries + 1
  | .held _ => 1
def uptoBulkAll {H : Type} : List (DataW H) → Nat
  | [] => 0
  | d :: r => uptoBulk d + uptoBulkAll r
def uptoBulkEntries {H : Type} : List (Lit × DataW H) → Nat
  | [] => 0
  | x :: r => uptoBulkEntry x + uptoBulkEntries r
def uptoBulkEntry {H : Type} : Lit × DataW H → Nat
  | (.string bytes, d) => bytes.length + uptoBulk d + 1
  | (_, d) => uptoBulk d + 1
 end
def uptoSmall : (H : Type) → List (DataW H) → Bool := fun _ ds => decide (uptoBulkAll ds ≤ 1048576)
def OpenSpec.upto (s : _root_.Go.ChangeSpec) : _root_.Go.OpenSpec := { _root_.Go.OpenSpec.ofChange s with cond := some uptoSmall }

/-- 'warderlaw09.NamesPut', WHERE WHAT IT READS IS OF BULK AT MOST 1048576: true; the input reads as it did. -/
def namesPutUptoRow : OpenClaim := { program := "ytpbbcjkbeodeiaadoor", sum := "054667b7136b1e13e139d286e8d78e7a87e9b917d2dab50852db770270ac97f7", func := "warder/warderlaw09.NamesPut", spec := "namesPut", inPlace := ["internal/bytealg.IndexByteString", "internal/abi.NoEscape"], unfollowed := true, recurses := true, named := ["unicode/utf8.first", "unicode/utf8.acceptRanges"], apart := false, laid := [("unicode/utf8.acceptRanges", laid_unicode_utf8_acceptRanges), ("unicode/utf8.first", laid_unicode_utf8_first)], narrowed := true }
def NamesPutUptoSaid : Prop := namesPutUptoRow.holds Tryd.pinned (OpenSpec.upto namesPutSpec)

/-- 'warderlaw09.NamesSame', WHERE WHAT IT READS IS OF BULK AT MOST 1048576: true; the input reads as it did. -/
def namesSameUptoRow : OpenClaim := { program := "ytpbbcjkbeodeiaadoor", sum := "054667b7136b1e13e139d286e8d78e7a87e9b917d2dab50852db770270ac97f7", func := "warder/warderlaw09.NamesSame", spec := "namesSame", inPlace := ["internal/bytealg.IndexByteString", "internal/abi.NoEscape"], unfollowed := true, recurses := true, named := ["unicode/utf8.first", "unicode/utf8.acceptRanges"], apart := false, laid := [("unicode/utf8.acceptRanges", laid_unicode_utf8_acceptRanges), ("unicode/utf8.first", laid_unicode_utf8_first)], narrowed := true }
def NamesSameUptoSaid : Prop := namesSameUptoRow.holds Tryd.pinned (OpenSpec.upto namesSameSpec)

/-- 'warderlaw09.NamesUnder', WHERE WHAT IT READS IS OF BULK AT MOST 1048576: true; the input reads as it did. -/
def namesUnderUptoRow : OpenClaim := { program := "ytpbbcjkbeodeiaadoor", sum := "054667b7136b1e13e139d286e8d78e7a87e9b917d2dab50852db770270ac97f7", func := "warder/warderlaw09.NamesUnder", spec := "namesUnder", inPlace := ["internal/bytealg.IndexByteString", "internal/abi.NoEscape"], unfollowed := true, recurses := true, named := ["unicode/utf8.first", "unicode/utf8.acceptRanges"], apart := false, laid := [("unicode/utf8.acceptRanges", laid_unicode_utf8_acceptRanges), ("unicode/utf8.first", laid_unicode_utf8_first)], narrowed := true }
def NamesUnderUptoSaid : Prop := namesUnderUptoRow.holds Tryd.pinned (OpenSpec.upto namesUnderSpec)

/-- 'warderlaw09.NamesFolded', WHERE WHAT IT READS IS OF BULK AT MOST 1048576: true; the input reads as it did. -/
def namesFoldedUptoRow : OpenClaim := { program := "ytpbbcjkbeodeiaadoor", sum := "054667b7136b1e13e139d286e8d78e7a87e9b917d2dab50852db770270ac97f7", func := "warder/warderlaw09.NamesFolded", spec := "namesFolded", inPlace := ["internal/bytealg.IndexByteString", "internal/abi.NoEscape"], unfollowed := true, recurses := true, named := ["unicode/utf8.first", "unicode/utf8.acceptRanges"], apart := false, laid := [("unicode/utf8.acceptRanges", laid_unicode_utf8_acceptRanges), ("unicode/utf8.first", laid_unicode_utf8_first)], narrowed := true }
def NamesFoldedUptoSaid : Prop := namesFoldedUptoRow.holds Tryd.pinned (OpenSpec.upto namesFoldedSpec)

/-- 'warderlaw17.KrbTexts', WHERE WHAT IT READS IS OF BULK AT MOST 1048576: true; the input reads as it did. -/
def krbTextsUptoRow : OpenClaim := { program := "ytpbbcjkbeodeiaadoor", sum := "054667b7136b1e13e139d286e8d78e7a87e9b917d2dab50852db770270ac97f7", func := "warder/warderlaw17.KrbTexts", spec := "krbTexts", inPlace := ["internal/bytealg.IndexByteString", "internal/abi.NoEscape"], unfollowed := true, recurses := true, named := ["unicode/utf8.first", "unicode/utf8.acceptRanges"], apart := false, laid := [("unicode/utf8.acceptRanges", laid_unicode_utf8_acceptRanges), ("unicode/utf8.first", laid_unicode_utf8_first)], narrowed := true }
def KrbTextsUptoSaid : Prop := krbTextsUptoRow.holds Tryd.pinned (OpenSpec.upto krbTextsSpec)

/-- 'warderlaw17.KrbSigns', WHERE WHAT IT READS IS OF BULK AT MOST 1048576: true; the input reads as it did. -/
def krbSignsUptoRow : OpenClaim := { program := "ytpbbcjkbeodeiaadoor", sum := "054667b7136b1e13e139d286e8d78e7a87e9b917d2dab50852db770270ac97f7", func := "warder/warderlaw17.KrbSigns", spec := "krbSigns", inPlace := ["internal/bytealg.IndexByteString", "internal/abi.NoEscape"], unfollowed := true, recurses := true, named := ["unicode/utf8.first", "unicode/utf8.acceptRanges"], apart := false, laid := [("unicode/utf8.acceptRanges", laid_unicode_utf8_acceptRanges), ("unicode/utf8.first", laid_unicode_utf8_first)], narrowed := true }
def KrbSignsUptoSaid : Prop := krbSignsUptoRow.holds Tryd.pinned (OpenSpec.upto krbSignsSpec)

/-- 'warderlaw17.KrbUnlike', WHERE WHAT IT READS IS OF BULK AT MOST 1048576: true; the input reads as it did. -/
def krbUnlikeUptoRow : OpenClaim := { program := "ytpbbcjkbeodeiaadoor", sum := "054667b7136b1e13e139d286e8d78e7a87e9b917d2dab50852db770270ac97f7", func := "warder/warderlaw17.KrbUnlike", spec := "krbUnlike", inPlace := ["internal/bytealg.IndexByteString", "internal/abi.NoEscape"], unfollowed := true, recurses := true, named := ["unicode/utf8.first", "unicode/utf8.acceptRanges"], apart := false, laid := [("unicode/utf8.acceptRanges", laid_unicode_utf8_acceptRanges), ("unicode/utf8.first", laid_unicode_utf8_first)], narrowed := true }
def KrbUnlikeUptoSaid : Prop := krbUnlikeUptoRow.holds Tryd.pinned (OpenSpec.upto krbUnlikeSpec)

end Rows
end Go.Proofs.YtpbbcjkbeodeiaaDoor
