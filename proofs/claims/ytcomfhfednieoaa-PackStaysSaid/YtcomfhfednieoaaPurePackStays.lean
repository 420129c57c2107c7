/- The law PackStays, as numbers and lists: what the printed functions say of it is true for every input that the row lets in. -/
import Derived.Test.YtcomfhfednieoaaMx14
import Derived.Test.YtcomfhfednieoaaAid
import Derived.Test.YtcomfhfednieoaaL02
namespace Go.Proofs.Ytcomfhfednieoaa.Pure
open Go Go.RowKit Go.Proofs.Ytcomfhfednieoaa.M Go.Proofs.Ytcomfhfednieoaa.Aid Go.Proofs.YtcomfhfednieoaaW.PrintWords Go.Proofs.YtcomfhfednieoaaW.PrintLast Go.Proofs.YtcomfhfednieoaaW.PrintMore
set_option linter.unusedVariables false
set_option linter.unusedSimpArgs false

-- IMPORT L02
theorem PackStays : fairleadlaw02_PackStays.Pure := by
  intro a0 l1 l2 _ _ _
  exact awake02

end Go.Proofs.Ytcomfhfednieoaa.Pure
