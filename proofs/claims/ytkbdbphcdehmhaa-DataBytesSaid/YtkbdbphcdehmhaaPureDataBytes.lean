/- The law DataBytes, as numbers and lists: what the printed functions say of it is true for every input that the row lets in. -/
import Derived.Test.YtkbdbphcdehmhaaMx15
import Derived.Test.YtkbdbphcdehmhaaAid
import Derived.Test.YtkbdbphcdehmhaaL04
import Derived.Test.YtkbdbphcdehmhaaL04r
import Derived.Test.YtkbdbphcdehmhaaL04o
namespace Go.Proofs.Ytkbdbphcdehmhaa.Pure
open Go Go.RowKit Go.Proofs.Ytkbdbphcdehmhaa.M Go.Proofs.Ytkbdbphcdehmhaa.Aid Go.Proofs.YtkbdbphcdehmhaaW.PrintWords Go.Proofs.YtkbdbphcdehmhaaW.PrintLast Go.Proofs.YtkbdbphcdehmhaaW.PrintMore
set_option linter.unusedVariables false
set_option linter.unusedSimpArgs false

-- IMPORT L04
-- IMPORT L04r
-- IMPORT L04o
theorem DataBytes : fairleadlaw04_DataBytes.Pure := by
  intro a0 a1 a2 a3 a4 a5 a6 a7 a8 l h hb
  refine ⟨(100 + 0) + 7 + 8 + 96, ?_⟩
  generalize hK : 100 + 0 = K
  have hk : 100 ≤ K := by omega
  have h2 := rof_is l hb.2 (K + 7 + 1 + 96) (by omega)
  rw [show K + 7 + 1 + 96 + 7 = K + 7 + 8 + 96 by omega] at h2
  unfold fairleadlaw04_DataBytes.f
  rw [awake04 _ (by omega), Option.bind_some, of_is l hb.2 K, Option.bind_some, h2, Option.bind_some, if_pos rfl, bytes_is _ _ _ _ _ _ _ _ _ _ (by omega), Option.bind_some, rbytes_is h _ (by omega), Option.bind_some, if_pos rfl]
  simp

end Go.Proofs.Ytkbdbphcdehmhaa.Pure
