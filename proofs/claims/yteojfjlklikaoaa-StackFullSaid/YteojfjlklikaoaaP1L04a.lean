/- Layer 4 (data), plain: a call's words. -/
import Derived.Test.YteojfjlklikaoaaP1Mx0
import Derived.Test.YteojfjlklikaoaaP1Mx3
import Derived.Test.YteojfjlklikaoaaP1Aid
import Derived.Test.YteojfjlklikaoaaP1L00
namespace Go.Proofs.Yteojfjlklikaoaa.Pure
open Go Go.RowKit Go.Proofs.Yteojfjlklikaoaa.M Go.Proofs.Yteojfjlklikaoaa.Aid Go.Proofs.YteojfjlklikaoaaW.PrintWords Go.Proofs.YteojfjlklikaoaaW.PrintLast Go.Proofs.YteojfjlklikaoaaW.PrintMore
set_option linter.unusedVariables false
set_option linter.unusedSimpArgs false
-- NEEDS data_laid.f data_Halves.f
-- IMPORT L00
def lo (x : Int) : Int := x % 4294967296
def hi (x : Int) : Int := x / 4294967296 % 4294967296
def b4 (x : Int) : List Int := [x % 256, x / 256 % 256, x / 65536 % 256, x / 16777216 % 256]
end Go.Proofs.Yteojfjlklikaoaa.Pure
