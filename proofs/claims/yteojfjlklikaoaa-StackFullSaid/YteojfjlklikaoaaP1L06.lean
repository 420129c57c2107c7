/- Layer 6 (vm), plain: a checked program runs to its end. -/
import Derived.Test.YteojfjlklikaoaaP1Mx0
import Derived.Test.YteojfjlklikaoaaP1Mx3
import Derived.Test.YteojfjlklikaoaaP1Mx4
import Derived.Test.YteojfjlklikaoaaP1Mx5
import Derived.Test.YteojfjlklikaoaaP1Aid
import Derived.OpenShut
import Derived.Test.YteojfjlklikaoaaP1L00
import Derived.Test.YteojfjlklikaoaaP1L03k
import Derived.Test.YteojfjlklikaoaaP1L05
import Derived.Test.YteojfjlklikaoaaP1L05b
import Derived.Test.YteojfjlklikaoaaP1L04a
namespace Go.Proofs.Yteojfjlklikaoaa.Pure
open Go Go.RowKit Go.Proofs.Yteojfjlklikaoaa.M Go.Proofs.Yteojfjlklikaoaa.Aid Go.Proofs.YteojfjlklikaoaaW.PrintWords Go.Proofs.YteojfjlklikaoaaW.PrintLast Go.Proofs.YteojfjlklikaoaaW.PrintMore
set_option linter.unusedVariables false
set_option linter.unusedSimpArgs false
-- NEEDS vm_play.f vm_step.f vm_moves.f vm_Run.f vm_MV vm_ST vm_RK vm_HL VmS check_Check.f data_Load.f data_laid.f data_Halves.f fairleadlaw06_awake.f
-- LIB Derived.OpenShut
-- IMPORT L00
-- IMPORT L03k
-- IMPORT L05
-- IMPORT L05b
-- IMPORT L04a
-- IMPORT L04p
def S0 : VmS := ⟨0, 0, false, 0, fun _ => 0⟩
theorem run_of {k : Nat} {l : List S53} {d0 d1 d2 d3 d4 d5 d6 d7 d8 ans e : Int} {P : List Int} (h : vm_play.f k l d0 d1 d2 d3 d4 d5 d6 d7 d8 = some (ans, P, e)) : vm_Run.f k l d0 d1 d2 d3 d4 d5 d6 d7 d8 = some (ans, (P.length : Int), e) := by
  unfold vm_Run.f
  rw [h]
  rfl
end Go.Proofs.Yteojfjlklikaoaa.Pure
