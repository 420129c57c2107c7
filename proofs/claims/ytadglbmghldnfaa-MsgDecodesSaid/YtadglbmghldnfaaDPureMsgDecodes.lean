/- The law MsgDecodes, as numbers and lists: what the printed functions say of it is true for every input that the row lets in. -/
import Derived.Test.YtadglbmghldnfaaDMx21
import Derived.Test.YtadglbmghldnfaaDAid
import Derived.Test.YtadglbmghldnfaaDL02n
import Derived.Test.YtadglbmghldnfaaDL02r
import Derived.Test.YtadglbmghldnfaaDL17
import Derived.Test.YtadglbmghldnfaaDL17d
import Derived.Test.YtadglbmghldnfaaDL17f
namespace Go.Proofs.Ytadglbmghldnfaa.Pure
open Go Go.RowKit Go.Proofs.Ytadglbmghldnfaa.M Go.Proofs.Ytadglbmghldnfaa.Aid Go.Proofs.YtadglbmghldnfaaW.PrintWords Go.Proofs.YtadglbmghldnfaaW.PrintLast Go.Proofs.YtadglbmghldnfaaW.PrintMore
set_option linter.unusedVariables false
set_option linter.unusedSimpArgs false
-- IMPORT L02n
-- IMPORT L02r
-- IMPORT L17
-- IMPORT L17d
-- IMPORT L17f
theorem MsgDecodes : fairleadlaw17_MsgDecodes.Pure := by
  intro l0 ⟨_, hb⟩
  refine ⟨1000, ?_⟩
  unfold fairleadlaw17_MsgDecodes.f
  rw [show 1000 = 700 + 300 from rfl, awake17 700, Option.bind_some]
  by_cases g1 : (l0.length : Int) > 2000
  · rw [if_pos g1]
  · rw [if_neg g1, show 700 + 300 = 800 + 200 from rfl, dec_same l0 hb (by omega) 800, Option.bind_some, show 800 + 200 = 980 + 20 from rfl, rdec_is l0 hb (by omega) 980, Option.bind_some]
    generalize RX l0 = r
    rw [if_pos rfl, if_pos (by simp)]
    simp
end Go.Proofs.Ytadglbmghldnfaa.Pure
