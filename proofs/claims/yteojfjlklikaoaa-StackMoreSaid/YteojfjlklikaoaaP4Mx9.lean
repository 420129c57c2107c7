-- Laid by a program (wip/tools/myprint.py) out of the loaded program's own print: for each Go function a Lean function and the proof of its contract.
import Derived.Test.YteojfjlklikaoaaP4Mx0
import Derived.Test.YteojfjlklikaoaaP4Mx3
import Derived.Test.YteojfjlklikaoaaP4Mx7
import Derived.Test.YteojfjlklikaoaaP4Mx8
namespace Go.Proofs.Yteojfjlklikaoaa.M
open Go.RowKit Go.Proofs.YteojfjlklikaoaaW.PrintWords Go.Proofs.YteojfjlklikaoaaW.PrintLast Go.Proofs.YteojfjlklikaoaaW.PrintMore
attribute [local go_sem] max2_int min2_int max_two min_two max_three min_three max_four min_four   -- for this text's walks alone
set_option linter.unusedVariables false
set_option linter.unusedSimpArgs false
def fairleadref05_Check.l0 : Nat → List (S53) → Int → Option (Int × Int)
  | 0, _, _ => none
  | k + 1, x0, x4 => if x4 < (x0.length : Int) then ((fairleadref05_wrong.f k x0 x4).bind fun t177 => (if t177 = 0 then (fairleadref05_Check.l0 k x0 (wrap64 (x4 + 1))) else (some (t177, x4)))) else (some (0, (-1)))
def fairleadref05_Check.f (k : Nat) (l0 : List (S53)) : Option (Int × Int) := if (l0.length : Int) = 0 then (some (10, 0)) else (if (l0.length : Int) > 4096 then (some (4, 4096)) else (fairleadref05_Check.l0 k l0 0))
-- HAND rounds=True making=True
def fairleadref04_number.l0 : Nat → List Int → Int → Int → Option (Int)
  | 0, _, _, _ => none
  | k + 1, x0, x3, x4 => if x4 ≥ 0 then (if 0 ≤ x4 then (if x4 < (x0.length : Int) then (fairleadref04_number.l0 k x0 (IntKind.u64.wrap ((IntKind.u64.wrap (x3 * 256)) + (IntKind.u64.wrap (rd x0 x4)))) (wrap64 (x4 - 1))) else (none)) else (none)) else (some x3)
def fairleadref04_number.f (k : Nat) (l0 : List Int) : Option (Int) := fairleadref04_number.l0 k l0 0 (wrap64 ((l0.length : Int) - 1))
def fairleadref04_low.l0 : Nat → Int → Int → List Int → Int → Option (List Int)
  | 0, _, _, _, _ => none
  | k + 1, x0, x1, x5, x6 => if x6 < x1 then (if x5.length < 140737488355328 then (fairleadref04_low.l0 k (IntKind.u64.wrap (Int.tdiv x0 256)) x1 (x5 ++ [(Int.tmod x0 256) % 256]) (wrap64 (x6 + 1))) else (none)) else (some x5)
def fairleadref04_low.f (k : Nat) (a0 : Int) (a1 : Int) : Option (List Int) := fairleadref04_low.l0 k a0 a1 ([] : List Int) 0
end Go.Proofs.Yteojfjlklikaoaa.M
