-- Laid by a program (wip/tools/myprint.py) out of the loaded program's own print: for each Go function a Lean function and the proof of its contract.
import Derived.Test.YtadglbmghldnfaaProg
import Derived.Below
import Derived.Deep.Draws
import Derived.Deep.AppendLies
import Derived.Maps.AppendAt
import Derived.OwnWalk
import Derived.Laws.BytesArg
import Derived.Laws.MakeOwn
import Derived.Laws.OwnMore
import Derived.Deep.OwnRows
import Derived.Tactics
import Derived.Lib.ConvBytes
import Derived.Laws.Slices
import Derived.WalkKit
import Derived.KernelRfl
import Derived.RowKit3
import Derived.Deep.LoopGhost
import Derived.Deep.QuietTactic
import Derived.BigQuiet
import Derived.WideLaws
import Derived.Deep.DeepCutAuto
import Derived.Deep.CutBlock
import Derived.Deep.RegionHeld3
import Derived.Laws.Rows
import Derived.Lib.AppendStr
import Derived.ArgAppend
import Derived.Laws.IdiomCopy
import Derived.OrdersHeld
import Derived.Laws.BitsLemmas
import Derived.RowKit
import Derived.Test.YtadglbmghldnfaaDMine
import Derived.Test.YtadglbmghldnfaaDMineEq
import Derived.Test.YtadglbmghldnfaaDMinePk
import Derived.Test.YtadglbmghldnfaaDMineSt
import Derived.Test.YtadglbmghldnfaaDWWords
import Derived.Test.YtadglbmghldnfaaDWLast
import Derived.Test.YtadglbmghldnfaaDWTab
import Derived.Test.YtadglbmghldnfaaDWApart
import Derived.Test.YtadglbmghldnfaaDWFoot
import Derived.Test.YtadglbmghldnfaaDWKept
import Derived.Test.YtadglbmghldnfaaDWShare
import Derived.Test.YtadglbmghldnfaaDWN
import Derived.Test.YtadglbmghldnfaaDWAt
import Derived.Test.YtadglbmghldnfaaDWEqStruct
import Derived.Test.YtadglbmghldnfaaDWRepsOne
import Derived.Test.YtadglbmghldnfaaDWInv
import Derived.Test.YtadglbmghldnfaaDWGuard
import Derived.Test.YtadglbmghldnfaaDWMore
namespace Go.Proofs.Ytadglbmghldnfaa.M
open Go.RowKit Go.Proofs.YtadglbmghldnfaaW.PrintWords Go.Proofs.YtadglbmghldnfaaW.PrintLast Go.Proofs.YtadglbmghldnfaaW.PrintMore
attribute [local go_sem] max2_int min2_int max_two min_two max_three min_three max_four min_four   -- for this text's walks alone
set_option linter.unusedVariables false
set_option linter.unusedSimpArgs false
def errW : Option Int → Value
  | none => .nilIface
  | some c => .iface 0 (.int .i64 c)
theorem errW_none : errW none = .nilIface := rfl
theorem errW_some (c : Int) : errW (some c) = .iface 0 (.int .i64 c) := rfl
theorem info5 : (Try.prog.info? 5).map (fun i => (i.zero, i.size, i.bytes)) = some (some (.int .u8 0), 1, 1) := by kernel_rfl
-- the values' own types
end Go.Proofs.Ytadglbmghldnfaa.M
