/- The law LexWords, as numbers and lists: what the printed functions say of it is true for every input that the row lets in. -/
import Derived.Test.YtbiccohcikfgeaaMx8
import Derived.Test.YtbiccohcikfgeaaAid
import Derived.Test.YtbiccohcikfgeaaL09
import Derived.Test.YtbiccohcikfgeaaL09a
import Derived.Test.YtbiccohcikfgeaaL09b
import Derived.Test.YtbiccohcikfgeaaL09c
import Derived.Test.YtbiccohcikfgeaaL09d
namespace Go.Proofs.Ytbiccohcikfgeaa.Pure
open Go Go.RowKit Go.Proofs.Ytbiccohcikfgeaa.M Go.Proofs.Ytbiccohcikfgeaa.Aid Go.Proofs.YtbiccohcikfgeaaW.PrintWords Go.Proofs.YtbiccohcikfgeaaW.PrintLast Go.Proofs.YtbiccohcikfgeaaW.PrintMore
set_option linter.unusedVariables false
set_option linter.unusedSimpArgs false

-- IMPORT L09
-- IMPORT L09a
-- IMPORT L09b
-- IMPORT L09c
-- IMPORT L09d
theorem LexWords : fairleadlaw09_LexWords.Pure := by
  intro s _
  refine ⟨40000 + 0, ?_⟩
  generalize hK : 40000 + 0 = K
  have hk : 40000 ≤ K := by omega
  unfold fairleadlaw09_LexWords.f
  rw [awake09 K (by omega)]
  simp only [Option.bind_some]
  by_cases h : (s.size : Int) > 9000
  · rw [if_pos h]
  · rw [if_neg h, if_pos trivial, is_is s _ (by omega), ris_is s (by omega) _ (by omega)]
    simp

end Go.Proofs.Ytbiccohcikfgeaa.Pure
