-- Laid by hp.py (wip/tools), a program of this work, over the kit's print; Lean checks it.
import Derived.Test.YtkkfhgapfcjpdaaProg
import Derived.Below
import Derived.Deep.Draws
import Derived.Deep.AppendLies
import Derived.Maps.AppendAt
import Derived.OwnWalk
import Derived.Laws.BytesArg
import Derived.Laws.MakeOwn
import Derived.Laws.OwnMore
import Derived.Deep.OwnRows
import Derived.Tactics
import Derived.Lib.ConvBytes
import Derived.Laws.Slices
import Derived.WalkKit
import Derived.KernelRfl
import Derived.RowKit3
import Derived.Deep.LoopGhost
import Derived.Deep.QuietTactic
import Derived.BigQuiet
import Derived.WideLaws
import Derived.Deep.DeepCutAuto
import Derived.Deep.CutBlock
import Derived.Deep.RegionHeld3
import Derived.Laws.Rows
import Derived.Lib.AppendStr
import Derived.ArgAppend
import Derived.Laws.IdiomCopy
import Derived.OrdersHeld
import Derived.Laws.BitsLemmas
import Derived.RowKit
import Derived.Test.YtkkfhgapfcjpdaaWWords
import Derived.Test.YtkkfhgapfcjpdaaWLast
import Derived.Test.YtkkfhgapfcjpdaaWTab
import Derived.Test.YtkkfhgapfcjpdaaWFour
import Derived.Test.YtkkfhgapfcjpdaaWQPut
import Derived.Test.YtkkfhgapfcjpdaaWApart
import Derived.Test.YtkkfhgapfcjpdaaWArr
import Derived.Test.YtkkfhgapfcjpdaaWZeros
import Derived.Test.YtkkfhgapfcjpdaaWFoot
import Derived.Test.YtkkfhgapfcjpdaaWKept
import Derived.Test.YtkkfhgapfcjpdaaWShare
import Derived.Test.YtkkfhgapfcjpdaaWN
import Derived.Test.YtkkfhgapfcjpdaaWFootNe
import Derived.Test.YtkkfhgapfcjpdaaWAt
import Derived.Test.YtkkfhgapfcjpdaaWEqStruct
import Derived.Test.YtkkfhgapfcjpdaaWRepsOne
import Derived.Test.YtkkfhgapfcjpdaaWInv
import Derived.Test.YtkkfhgapfcjpdaaWInvWords
import Derived.Test.YtkkfhgapfcjpdaaWGuard
import Derived.Test.YtkkfhgapfcjpdaaWNEv
import Derived.Test.YtkkfhgapfcjpdaaWMore
namespace Go.Proofs.Ytkkfhgapfcjpdaa.PAll
open Go.RowKit Go.Proofs.YtkkfhgapfcjpdaaW.PrintWords Go.Proofs.YtkkfhgapfcjpdaaW.PrintLast Go.Proofs.YtkkfhgapfcjpdaaW.PrintMore
attribute [local go_sem] max2_int min2_int max_two min_two max_three min_three max_four min_four   -- for this text's walks alone
set_option linter.unusedVariables false
set_option linter.unusedSimpArgs false



def errW : Option Int → Value
  | none => .nilIface
  | some c => .iface 0 (.int .i64 c)
theorem errW_none : errW none = .nilIface := rfl
theorem errW_some (c : Int) : errW (some c) = .iface 0 (.int .i64 c) := rfl

theorem info3 : (Try.prog.info? 3).map (fun i => (i.zero, i.size, i.bytes)) = some (some (.int .i64 0), 1, 8) := by kernel_rfl
-- the values' own types

end Go.Proofs.Ytkkfhgapfcjpdaa.PAll
