-- printed by wip/xprint.py (a scratch copy of the kit's print, with contracts by hand)
import Derived.Test.YtpbbcjkbeodeiaaDoorProg
import Derived.Below
import Derived.Deep.Draws
import Derived.Deep.AppendLies
import Derived.Maps.AppendAt
import Derived.OwnWalk
import Derived.Laws.BytesArg
import Derived.Laws.MakeOwn
import Derived.Laws.OwnMore
import Derived.Deep.OwnRows
import Derived.Tactics
import Derived.Lib.ConvBytes
import Derived.Laws.Slices
import Derived.WalkKit
import Derived.KernelRfl
import Derived.RowKit3
import Derived.Deep.LoopGhost
import Derived.Deep.QuietTactic
import Derived.BigQuiet
import Derived.WideLaws
import Derived.Deep.DeepCutAuto
import Derived.Deep.CutBlock
import Derived.Deep.RegionHeld3
import Derived.Laws.Rows
import Derived.Lib.AppendStr
import Derived.ArgAppend
import Derived.Laws.IdiomCopy
import Derived.OrdersHeld
import Derived.Laws.BitsLemmas
import Derived.RowKit
import Derived.Test.YtpbbcjkbeodeiaaDoorPl
import Derived.Test.YtpbbcjkbeodeiaaDoorRunes
import Derived.Outline
import Derived.Laws.EntriesVeiled
import Derived.Lib.SliceRun
import Derived.Test.YtpbbcjkbeodeiaaDoorPrep
import Derived.Test.YtpbbcjkbeodeiaaDoorRefPrep
import Derived.Lib.SlBytesConst
import Derived.Test.YtpbbcjkbeodeiaaDoorNx
import Derived.Test.YtpbbcjkbeodeiaaDoorShelf
import Derived.Test.YtpbbcjkbeodeiaaDoorWWords
import Derived.Test.YtpbbcjkbeodeiaaDoorWLast
import Derived.Test.YtpbbcjkbeodeiaaDoorWTab
import Derived.Test.YtpbbcjkbeodeiaaDoorWFour
import Derived.Test.YtpbbcjkbeodeiaaDoorWQPut
import Derived.Test.YtpbbcjkbeodeiaaDoorWApart
import Derived.Test.YtpbbcjkbeodeiaaDoorWArr
import Derived.Test.YtpbbcjkbeodeiaaDoorWZeros
import Derived.Test.YtpbbcjkbeodeiaaDoorWFoot
import Derived.Test.YtpbbcjkbeodeiaaDoorWKept
import Derived.Test.YtpbbcjkbeodeiaaDoorWShare
import Derived.Test.YtpbbcjkbeodeiaaDoorWN
import Derived.Test.YtpbbcjkbeodeiaaDoorWFootNe
import Derived.Test.YtpbbcjkbeodeiaaDoorWAt
import Derived.Test.YtpbbcjkbeodeiaaDoorWEqStruct
import Derived.Test.YtpbbcjkbeodeiaaDoorWRepsOne
import Derived.Test.YtpbbcjkbeodeiaaDoorWInv
import Derived.Test.YtpbbcjkbeodeiaaDoorWInvWords
import Derived.Test.YtpbbcjkbeodeiaaDoorWGuard
import Derived.Test.YtpbbcjkbeodeiaaDoorWNEv
import Derived.Test.YtpbbcjkbeodeiaaDoorWMore
namespace Go.Proofs.YtpbbcjkbeodeiaaDoor.XO
open Go.RowKit Go.Proofs.YtpbbcjkbeodeiaaDoorW.PrintWords Go.Proofs.YtpbbcjkbeodeiaaDoorW.PrintLast Go.Proofs.YtpbbcjkbeodeiaaDoorW.PrintMore
attribute [local go_sem] max2_int min2_int max_two min_two max_three min_three max_four min_four   -- for this text's walks alone
set_option linter.unusedVariables false
set_option linter.unusedSimpArgs false



def errW : Option Int → Value
  | none => .nilIface
  | some c => .iface 0 (.int .i64 c)
theorem errW_none : errW none = .nilIface := rfl
theorem errW_some (c : Int) : errW (some c) = .iface 0 (.int .i64 c) := rfl

theorem info5 : (Tryd.prog.info? 5).map (fun i => (i.zero, i.size, i.bytes)) = some (some (.int .u8 0), 1, 1) := by kernel_rfl
-- the values' own types

end Go.Proofs.YtpbbcjkbeodeiaaDoor.XO
