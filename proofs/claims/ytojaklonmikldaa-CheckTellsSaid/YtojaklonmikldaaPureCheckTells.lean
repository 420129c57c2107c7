/- The law CheckTells, as numbers and lists: what the printed functions say of it is true for every input that the row lets in. -/
import Derived.Test.YtojaklonmikldaaMx5
import Derived.Test.YtojaklonmikldaaAid
import Derived.Test.YtojaklonmikldaaL05
namespace Go.Proofs.Ytojaklonmikldaa.Pure
open Go Go.RowKit Go.Proofs.Ytojaklonmikldaa.M Go.Proofs.Ytojaklonmikldaa.Aid Go.Proofs.YtojaklonmikldaaW.PrintWords Go.Proofs.YtojaklonmikldaaW.PrintLast Go.Proofs.YtojaklonmikldaaW.PrintMore
set_option linter.unusedVariables false
set_option linter.unusedSimpArgs false

-- IMPORT L05
theorem CheckTells : fairleadlaw05_CheckTells.Pure := by
  intro l ⟨_, ho⟩
  refine ⟨4200 + 0, ?_⟩
  generalize hK : 4200 + 0 = K
  have hk : 4200 ≤ K := by omega
  unfold fairleadlaw05_CheckTells.f
  rw [awake05 K hk, check_is l ho K hk, rcheck_is l ho K hk]
  simp

end Go.Proofs.Ytojaklonmikldaa.Pure
