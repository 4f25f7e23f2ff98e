-- Written by this session's own program (wip/gen/myprint.py).
import Derived.Test.YtppjmcfcacgbdaaProg
import Derived.Below
import Derived.Deep.Draws
import Derived.Deep.AppendLies
import Derived.Maps.AppendAt
import Derived.OwnWalk
import Derived.Laws.BytesArg
import Derived.Laws.MakeOwn
import Derived.Laws.OwnMore
import Derived.Deep.OwnRows
import Derived.Tactics
import Derived.Lib.ConvBytes
import Derived.Laws.Slices
import Derived.WalkKit
import Derived.KernelRfl
import Derived.RowKit3
import Derived.Deep.LoopGhost
import Derived.Deep.QuietTactic
import Derived.BigQuiet
import Derived.WideLaws
import Derived.Deep.DeepCutAuto
import Derived.Deep.CutBlock
import Derived.Deep.RegionHeld3
import Derived.Laws.Rows
import Derived.Lib.AppendStr
import Derived.ArgAppend
import Derived.Laws.IdiomCopy
import Derived.OrdersHeld
import Derived.Laws.BitsLemmas
import Derived.RowKit
import Derived.Test.YtppjmcfcacgbdaaShelf
import Derived.Test.YtppjmcfcacgbdaaWWords
import Derived.Test.YtppjmcfcacgbdaaWLast
import Derived.Test.YtppjmcfcacgbdaaWTab
import Derived.Test.YtppjmcfcacgbdaaWFour
import Derived.Test.YtppjmcfcacgbdaaWQPut
import Derived.Test.YtppjmcfcacgbdaaWApart
import Derived.Test.YtppjmcfcacgbdaaWArr
import Derived.Test.YtppjmcfcacgbdaaWZeros
import Derived.Test.YtppjmcfcacgbdaaWFoot
import Derived.Test.YtppjmcfcacgbdaaWKept
import Derived.Test.YtppjmcfcacgbdaaWShare
import Derived.Test.YtppjmcfcacgbdaaWN
import Derived.Test.YtppjmcfcacgbdaaWFootNe
import Derived.Test.YtppjmcfcacgbdaaWAt
import Derived.Test.YtppjmcfcacgbdaaWEqStruct
import Derived.Test.YtppjmcfcacgbdaaWRepsOne
import Derived.Test.YtppjmcfcacgbdaaWInv
import Derived.Test.YtppjmcfcacgbdaaWInvWords
import Derived.Test.YtppjmcfcacgbdaaWGuard
import Derived.Test.YtppjmcfcacgbdaaWNEv
import Derived.Test.YtppjmcfcacgbdaaWMore
namespace Go.Proofs.Ytppjmcfcacgbdaa.MFnExactSpread
open Go.RowKit Go.Proofs.YtppjmcfcacgbdaaW.PrintWords Go.Proofs.YtppjmcfcacgbdaaW.PrintLast Go.Proofs.YtppjmcfcacgbdaaW.PrintMore
attribute [local go_sem] max2_int min2_int max_two min_two max_three min_three max_four min_four   -- for this text's walks alone
set_option linter.unusedVariables false
set_option linter.unusedSimpArgs false



def errW : Option Int → Value
  | none => .nilIface
  | some c => .iface 0 (.int .i64 c)
theorem errW_none : errW none = .nilIface := rfl
theorem errW_some (c : Int) : errW (some c) = .iface 0 (.int .i64 c) := rfl

theorem info3 : (Try.prog.info? 3).map (fun i => (i.zero, i.size, i.bytes)) = some (some (.int .i64 0), 1, 8) := by kernel_rfl
-- the values' own types

end Go.Proofs.Ytppjmcfcacgbdaa.MFnExactSpread
