/- The law VmRuns, as numbers and lists: what the printed functions say of it is true for every input that the row lets in. -/
import Derived.Test.YtdlmnmhlgacpnaaMx12
import Derived.Test.YtdlmnmhlgacpnaaAid
import Derived.Test.YtdlmnmhlgacpnaaL06a
import Derived.Test.YtdlmnmhlgacpnaaL06s
namespace Go.Proofs.Ytdlmnmhlgacpnaa.Pure
open Go Go.RowKit Go.Proofs.Ytdlmnmhlgacpnaa.M Go.Proofs.Ytdlmnmhlgacpnaa.Aid Go.Proofs.YtdlmnmhlgacpnaaW.PrintWords Go.Proofs.YtdlmnmhlgacpnaaW.PrintLast Go.Proofs.YtdlmnmhlgacpnaaW.PrintMore
set_option linter.unusedVariables false
set_option linter.unusedSimpArgs false

-- IMPORT L06a
-- IMPORT L06s
theorem VmRuns : fairleadlaw06_VmRuns.Pure := by
  intro l d0 d1 d2 d3 d4 d5 d6 d7 d8 hl hd
  refine ⟨7000 + 0, ?_⟩
  generalize hK : 7000 + 0 = K
  have hk : 7000 ≤ K := by omega
  have ho : ∀ x ∈ l, InsOk x := hl.2
  unfold fairleadlaw06_VmRuns.f
  rw [awake06 K (by omega), run_ref l ho hd K (by omega)]
  simp only [Option.bind_some]
  rcases play_ok l ho hd with ⟨h1, h2, h3, P, ans, hr, hp⟩ | ⟨h1, hp⟩
  · rw [run_of (hp K (by omega))]; simp
  · rw [run_of (hp K (by omega))]; simp

end Go.Proofs.Ytdlmnmhlgacpnaa.Pure
