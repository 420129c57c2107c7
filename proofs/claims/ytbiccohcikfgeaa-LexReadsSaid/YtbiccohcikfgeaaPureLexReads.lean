/- The law LexReads, as numbers and lists: what the printed functions say of it is true for every input that the row lets in. -/
import Derived.Test.YtbiccohcikfgeaaMx8
import Derived.Test.YtbiccohcikfgeaaAid
import Derived.Test.YtbiccohcikfgeaaL09
import Derived.Test.YtbiccohcikfgeaaL09a
import Derived.Test.YtbiccohcikfgeaaL09b
import Derived.Test.YtbiccohcikfgeaaL09c
import Derived.Test.YtbiccohcikfgeaaL09d
namespace Go.Proofs.Ytbiccohcikfgeaa.Pure
open Go Go.RowKit Go.Proofs.Ytbiccohcikfgeaa.M Go.Proofs.Ytbiccohcikfgeaa.Aid Go.Proofs.YtbiccohcikfgeaaW.PrintWords Go.Proofs.YtbiccohcikfgeaaW.PrintLast Go.Proofs.YtbiccohcikfgeaaW.PrintMore
set_option linter.unusedVariables false
set_option linter.unusedSimpArgs false

-- IMPORT L09
-- IMPORT L09a
-- IMPORT L09b
-- IMPORT L09c
-- IMPORT L09d
theorem LexReads : fairleadlaw09_LexReads.Pure := by
  intro s _
  refine ⟨40000 + 0, ?_⟩
  generalize hK : 40000 + 0 = K
  have hk : 40000 ≤ K := by omega
  have hl := ALL_len s
  unfold fairleadlaw09_LexReads.f
  rw [awake09 K hk, Option.bind_some]
  by_cases h : (s.size : Int) > 9000
  · rw [if_pos h]
  · rw [if_neg h, all_is s K hk, Option.bind_some, rall_is s K hk, Option.bind_some, same9 _ (by omega) K (by omega), Option.bind_some]
    simp

end Go.Proofs.Ytbiccohcikfgeaa.Pure
