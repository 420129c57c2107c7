-- Laid by a program (wip/tools/myprint.py) out of the loaded program's own print: for each Go function a Lean function and the proof of its contract.
import Derived.Test.YtleegkeoggbkhaaProg
import Derived.Below
import Derived.Deep.Draws
import Derived.Deep.AppendLies
import Derived.Maps.AppendAt
import Derived.OwnWalk
import Derived.Laws.BytesArg
import Derived.Laws.MakeOwn
import Derived.Laws.OwnMore
import Derived.Deep.OwnRows
import Derived.Tactics
import Derived.Lib.ConvBytes
import Derived.Laws.Slices
import Derived.WalkKit
import Derived.KernelRfl
import Derived.RowKit3
import Derived.Deep.LoopGhost
import Derived.Deep.QuietTactic
import Derived.BigQuiet
import Derived.WideLaws
import Derived.Deep.DeepCutAuto
import Derived.Deep.CutBlock
import Derived.Deep.RegionHeld3
import Derived.Laws.Rows
import Derived.Lib.AppendStr
import Derived.ArgAppend
import Derived.Laws.IdiomCopy
import Derived.OrdersHeld
import Derived.Laws.BitsLemmas
import Derived.RowKit
import Derived.Test.YtleegkeoggbkhaaMine
import Derived.Test.YtleegkeoggbkhaaWWords
import Derived.Test.YtleegkeoggbkhaaWLast
import Derived.Test.YtleegkeoggbkhaaWTab
import Derived.Test.YtleegkeoggbkhaaWFour
import Derived.Test.YtleegkeoggbkhaaWQPut
import Derived.Test.YtleegkeoggbkhaaWApart
import Derived.Test.YtleegkeoggbkhaaWArr
import Derived.Test.YtleegkeoggbkhaaWZeros
import Derived.Test.YtleegkeoggbkhaaWFoot
import Derived.Test.YtleegkeoggbkhaaWKept
import Derived.Test.YtleegkeoggbkhaaWShare
import Derived.Test.YtleegkeoggbkhaaWN
import Derived.Test.YtleegkeoggbkhaaWFootNe
import Derived.Test.YtleegkeoggbkhaaWAt
import Derived.Test.YtleegkeoggbkhaaWEqStruct
import Derived.Test.YtleegkeoggbkhaaWRepsOne
import Derived.Test.YtleegkeoggbkhaaWInv
import Derived.Test.YtleegkeoggbkhaaWInvWords
import Derived.Test.YtleegkeoggbkhaaWGuard
import Derived.Test.YtleegkeoggbkhaaWNEv
import Derived.Test.YtleegkeoggbkhaaWMore
namespace Go.Proofs.Ytleegkeoggbkhaa.M
open Go.RowKit Go.Proofs.YtleegkeoggbkhaaW.PrintWords Go.Proofs.YtleegkeoggbkhaaW.PrintLast Go.Proofs.YtleegkeoggbkhaaW.PrintMore
attribute [local go_sem] max2_int min2_int max_two min_two max_three min_three max_four min_four   -- for this text's walks alone
set_option linter.unusedVariables false
set_option linter.unusedSimpArgs false



def errW : Option Int → Value
  | none => .nilIface
  | some c => .iface 0 (.int .i64 c)
theorem errW_none : errW none = .nilIface := rfl
theorem errW_some (c : Int) : errW (some c) = .iface 0 (.int .i64 c) := rfl

theorem info25 : (Try.prog.info? 25).map (fun i => (i.zero, i.size, i.bytes)) = some (some (.int .u32 0), 1, 4) := by kernel_rfl
-- the values' own types

end Go.Proofs.Ytleegkeoggbkhaa.M
