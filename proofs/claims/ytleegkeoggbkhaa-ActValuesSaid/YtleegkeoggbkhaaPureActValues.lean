/- The law ActValues, as numbers and lists: what the printed functions say of it is true for every input that the row lets in. -/
import Derived.Test.YtleegkeoggbkhaaMx4
import Derived.Test.YtleegkeoggbkhaaAid
import Derived.Test.YtleegkeoggbkhaaL07
namespace Go.Proofs.Ytleegkeoggbkhaa.Pure
open Go Go.RowKit Go.Proofs.Ytleegkeoggbkhaa.M Go.Proofs.Ytleegkeoggbkhaa.Aid Go.Proofs.YtleegkeoggbkhaaW.PrintWords Go.Proofs.YtleegkeoggbkhaaW.PrintLast Go.Proofs.YtleegkeoggbkhaaW.PrintMore
set_option linter.unusedVariables false
set_option linter.unusedSimpArgs false

-- IMPORT L07
theorem ActValues : fairleadlaw07_ActValues.Pure := by
  intro k a _
  refine ⟨10, ?_⟩
  unfold fairleadlaw07_ActValues.f
  rw [awake07 10 (by decide), value_is, rvalue_is, right_is, rright_is]
  simp

end Go.Proofs.Ytleegkeoggbkhaa.Pure
