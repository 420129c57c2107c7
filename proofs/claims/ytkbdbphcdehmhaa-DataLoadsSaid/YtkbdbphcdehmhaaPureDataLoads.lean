/- The law DataLoads, as numbers and lists: what the printed functions say of it is true for every input that the row lets in. -/
import Derived.Test.YtkbdbphcdehmhaaMx5
import Derived.Test.YtkbdbphcdehmhaaAid
import Derived.Test.YtkbdbphcdehmhaaL04
import Derived.Test.YtkbdbphcdehmhaaL04r
namespace Go.Proofs.Ytkbdbphcdehmhaa.Pure
open Go Go.RowKit Go.Proofs.Ytkbdbphcdehmhaa.M Go.Proofs.Ytkbdbphcdehmhaa.Aid Go.Proofs.YtkbdbphcdehmhaaW.PrintWords Go.Proofs.YtkbdbphcdehmhaaW.PrintLast Go.Proofs.YtkbdbphcdehmhaaW.PrintMore
set_option linter.unusedVariables false
set_option linter.unusedSimpArgs false

-- IMPORT L04
-- IMPORT L04r
theorem DataLoads : fairleadlaw04_DataLoads.Pure := by
  intro a0 a1 a2 a3 a4 a5 a6 a7 a8 p h hp
  refine ⟨100 + 0, ?_⟩
  generalize hK : 100 + 0 = K
  unfold fairleadlaw04_DataLoads.f
  rw [awake04 K (by omega), load_is _ _ _ _ _ _ _ _ _ p hp K (by omega), rload_is h p hp K (by omega)]
  simp

end Go.Proofs.Ytkbdbphcdehmhaa.Pure
