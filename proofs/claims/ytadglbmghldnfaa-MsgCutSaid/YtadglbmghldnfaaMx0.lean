-- Laid by a program (wip/tools/myprint.py) out of the loaded program's own print: for each Go function a Lean function and the proof of its contract.
import Derived.Test.YtadglbmghldnfaaProg
import Derived.Below
import Derived.Deep.Draws
import Derived.Deep.AppendLies
import Derived.Maps.AppendAt
import Derived.OwnWalk
import Derived.Laws.BytesArg
import Derived.Laws.MakeOwn
import Derived.Laws.OwnMore
import Derived.Deep.OwnRows
import Derived.Tactics
import Derived.Lib.ConvBytes
import Derived.Laws.Slices
import Derived.WalkKit
import Derived.KernelRfl
import Derived.RowKit3
import Derived.Deep.LoopGhost
import Derived.Deep.QuietTactic
import Derived.BigQuiet
import Derived.WideLaws
import Derived.Deep.DeepCutAuto
import Derived.Deep.CutBlock
import Derived.Deep.RegionHeld3
import Derived.Laws.Rows
import Derived.Lib.AppendStr
import Derived.ArgAppend
import Derived.Laws.IdiomCopy
import Derived.OrdersHeld
import Derived.Laws.BitsLemmas
import Derived.RowKit
import Derived.Test.YtadglbmghldnfaaMine
import Derived.Test.YtadglbmghldnfaaMineEq
import Derived.Test.YtadglbmghldnfaaMinePk
import Derived.Test.YtadglbmghldnfaaWWords
import Derived.Test.YtadglbmghldnfaaWLast
import Derived.Test.YtadglbmghldnfaaWTab
import Derived.Test.YtadglbmghldnfaaWFour
import Derived.Test.YtadglbmghldnfaaWQPut
import Derived.Test.YtadglbmghldnfaaWApart
import Derived.Test.YtadglbmghldnfaaWArr
import Derived.Test.YtadglbmghldnfaaWZeros
import Derived.Test.YtadglbmghldnfaaWFoot
import Derived.Test.YtadglbmghldnfaaWKept
import Derived.Test.YtadglbmghldnfaaWShare
import Derived.Test.YtadglbmghldnfaaWN
import Derived.Test.YtadglbmghldnfaaWFootNe
import Derived.Test.YtadglbmghldnfaaWAt
import Derived.Test.YtadglbmghldnfaaWEqStruct
import Derived.Test.YtadglbmghldnfaaWRepsOne
import Derived.Test.YtadglbmghldnfaaWInv
import Derived.Test.YtadglbmghldnfaaWInvWords
import Derived.Test.YtadglbmghldnfaaWGuard
import Derived.Test.YtadglbmghldnfaaWNEv
import Derived.Test.YtadglbmghldnfaaWMore
namespace Go.Proofs.Ytadglbmghldnfaa.M
open Go.RowKit Go.Proofs.YtadglbmghldnfaaW.PrintWords Go.Proofs.YtadglbmghldnfaaW.PrintLast Go.Proofs.YtadglbmghldnfaaW.PrintMore
attribute [local go_sem] max2_int min2_int max_two min_two max_three min_three max_four min_four   -- for this text's walks alone
set_option linter.unusedVariables false
set_option linter.unusedSimpArgs false



def errW : Option Int → Value
  | none => .nilIface
  | some c => .iface 0 (.int .i64 c)
theorem errW_none : errW none = .nilIface := rfl
theorem errW_some (c : Int) : errW (some c) = .iface 0 (.int .i64 c) := rfl

theorem info5 : (Try.prog.info? 5).map (fun i => (i.zero, i.size, i.bytes)) = some (some (.int .u8 0), 1, 1) := by kernel_rfl
-- the values' own types

end Go.Proofs.Ytadglbmghldnfaa.M
