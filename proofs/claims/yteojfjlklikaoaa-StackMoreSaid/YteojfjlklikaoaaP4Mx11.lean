-- Laid by a program (wip/tools/myprint.py) out of the loaded program's own print: for each Go function a Lean function and the proof of its contract.
import Derived.Test.YteojfjlklikaoaaP4Mx0
import Derived.Test.YteojfjlklikaoaaP4Mx10
namespace Go.Proofs.Yteojfjlklikaoaa.M
open Go.RowKit Go.Proofs.YteojfjlklikaoaaW.PrintWords Go.Proofs.YteojfjlklikaoaaW.PrintLast Go.Proofs.YteojfjlklikaoaaW.PrintMore
attribute [local go_sem] max2_int min2_int max_two min_two max_three min_three max_four min_four   -- for this text's walks alone
set_option linter.unusedVariables false
set_option linter.unusedSimpArgs false
def fairleadref06_reckon.f (k : Nat) (a0 : Int) (a1 : Int) (a2 : Int) : Option (Int) := if a0 = 4 then (some ((a1 + a2) % 4294967296)) else (if a0 = 20 then (some ((a1 - a2) % 4294967296)) else (if a0 = 36 then (some ((a1 * a2) % 4294967296)) else (if a0 = 52 then (if a2 = 0 then (none) else (some ((Int.tdiv a1 a2) % 4294967296))) else (if a0 = 68 then (some (Go.bits .or .u32 a1 a2)) else (if a0 = 84 then (some (Go.bits .and .u32 a1 a2)) else (if a0 = 100 then ((fairleadref06_shift.f k a1 a2 true).bind fun t243 => (some t243)) else (if a0 = 116 then ((fairleadref06_shift.f k a1 a2 false).bind fun t244 => (some t244)) else (some (Go.bits .xor .u32 a1 a2)))))))))
end Go.Proofs.Yteojfjlklikaoaa.M
