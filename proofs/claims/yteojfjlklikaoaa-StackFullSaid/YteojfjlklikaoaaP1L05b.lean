/- Layer 5 (check), plain: programs cut, joined and spoilt. -/
import Derived.Test.YteojfjlklikaoaaP1Mx0
import Derived.Test.YteojfjlklikaoaaP1Mx3
import Derived.Test.YteojfjlklikaoaaP1Aid
import Derived.Test.YteojfjlklikaoaaP1L03k
import Derived.Test.YteojfjlklikaoaaP1L05
namespace Go.Proofs.Yteojfjlklikaoaa.Pure
open Go Go.RowKit Go.Proofs.Yteojfjlklikaoaa.M Go.Proofs.Yteojfjlklikaoaa.Aid Go.Proofs.YteojfjlklikaoaaW.PrintWords Go.Proofs.YteojfjlklikaoaaW.PrintLast Go.Proofs.YteojfjlklikaoaaW.PrintMore
set_option linter.unusedVariables false
set_option linter.unusedSimpArgs false
-- NEEDS check_Check.f fairleadref05_Check.f
-- IMPORT L03k
-- IMPORT L05
theorem chk_pos {x : S53} {r : List S53} (h : wrongOf r.length x = 0) (i : Int) : chkFrom (x :: r) i = chkFrom r (i + 1) := by simp only [chkFrom]; rw [if_pos h]
end Go.Proofs.Yteojfjlklikaoaa.Pure
