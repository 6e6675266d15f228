-- Laid by hp.py (wip/tools), a program of this work, over the kit's print; Lean checks it.
import Derived.Test.YtpnohgolpeocaaaProg
import Derived.Below
import Derived.Deep.Draws
import Derived.Deep.AppendLies
import Derived.Maps.AppendAt
import Derived.OwnWalk
import Derived.Laws.BytesArg
import Derived.Laws.MakeOwn
import Derived.Laws.OwnMore
import Derived.Deep.OwnRows
import Derived.Tactics
import Derived.Lib.ConvBytes
import Derived.Laws.Slices
import Derived.WalkKit
import Derived.KernelRfl
import Derived.RowKit3
import Derived.Deep.LoopGhost
import Derived.Deep.QuietTactic
import Derived.BigQuiet
import Derived.WideLaws
import Derived.Deep.DeepCutAuto
import Derived.Deep.CutBlock
import Derived.Deep.RegionHeld3
import Derived.Laws.Rows
import Derived.Lib.AppendStr
import Derived.ArgAppend
import Derived.Laws.IdiomCopy
import Derived.OrdersHeld
import Derived.Laws.BitsLemmas
import Derived.RowKit
import Derived.Lib.LazyBuf
import Derived.RangeFuncBox
import Derived.RangeFuncLeaves
import Derived.RangeFuncNested
import Derived.Shelf.Abstract
import Derived.OwnWalkIn
import Derived.TacticsInMore
import Derived.LoopNIn
import Derived.LoopIn
import Derived.Test.YtpnohgolpeocaaaHW
import Derived.Test.YtpnohgolpeocaaaWWords
import Derived.Test.YtpnohgolpeocaaaWLast
import Derived.Test.YtpnohgolpeocaaaWTab
import Derived.Test.YtpnohgolpeocaaaWFour
import Derived.Test.YtpnohgolpeocaaaWQPut
import Derived.Test.YtpnohgolpeocaaaWApart
import Derived.Test.YtpnohgolpeocaaaWArr
import Derived.Test.YtpnohgolpeocaaaWZeros
import Derived.Test.YtpnohgolpeocaaaWFoot
import Derived.Test.YtpnohgolpeocaaaWKept
import Derived.Test.YtpnohgolpeocaaaWShare
import Derived.Test.YtpnohgolpeocaaaWN
import Derived.Test.YtpnohgolpeocaaaWFootNe
import Derived.Test.YtpnohgolpeocaaaWAt
import Derived.Test.YtpnohgolpeocaaaWEqStruct
import Derived.Test.YtpnohgolpeocaaaWRepsOne
import Derived.Test.YtpnohgolpeocaaaWInv
import Derived.Test.YtpnohgolpeocaaaWInvWords
import Derived.Test.YtpnohgolpeocaaaWGuard
import Derived.Test.YtpnohgolpeocaaaWNEv
import Derived.Test.YtpnohgolpeocaaaWMore
namespace Go.Proofs.Ytpnohgolpeocaaa.PAll
open Go.RowKit Go.Proofs.YtpnohgolpeocaaaW.PrintWords Go.Proofs.YtpnohgolpeocaaaW.PrintLast Go.Proofs.YtpnohgolpeocaaaW.PrintMore
attribute [local go_sem] max2_int min2_int max_two min_two max_three min_three max_four min_four   -- for this text's walks alone
set_option linter.unusedVariables false
set_option linter.unusedSimpArgs false



def errW : Option Int → Value
  | none => .nilIface
  | some c => .iface 0 (.int .i64 c)
theorem errW_none : errW none = .nilIface := rfl
theorem errW_some (c : Int) : errW (some c) = .iface 0 (.int .i64 c) := rfl

theorem info5 : (Try.prog.info? 5).map (fun i => (i.zero, i.size, i.bytes)) = some (some (.int .u8 0), 1, 1) := by kernel_rfl
-- the values' own types

end Go.Proofs.Ytpnohgolpeocaaa.PAll
