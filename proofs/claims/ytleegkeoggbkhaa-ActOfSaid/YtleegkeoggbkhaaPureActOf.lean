/- The law ActOf, as numbers and lists: what the printed functions say of it is true for every input that the row lets in. -/
import Derived.Test.YtleegkeoggbkhaaMx5
import Derived.Test.YtleegkeoggbkhaaAid
import Derived.Test.YtleegkeoggbkhaaL07
namespace Go.Proofs.Ytleegkeoggbkhaa.Pure
open Go Go.RowKit Go.Proofs.Ytleegkeoggbkhaa.M Go.Proofs.Ytleegkeoggbkhaa.Aid Go.Proofs.YtleegkeoggbkhaaW.PrintWords Go.Proofs.YtleegkeoggbkhaaW.PrintLast Go.Proofs.YtleegkeoggbkhaaW.PrintMore
set_option linter.unusedVariables false
set_option linter.unusedSimpArgs false

-- IMPORT L07
theorem ActOf : fairleadlaw07_ActOf.Pure := by
  intro v h
  refine ⟨10, ?_⟩
  unfold fairleadlaw07_ActOf.f
  rw [awake07 10 (by decide), of_is h.1 h.2 10 (by decide), rof_is h.1 h.2 10 (by decide)]
  simp

end Go.Proofs.Ytleegkeoggbkhaa.Pure
