/- The law InsnKinds, as numbers and lists: what the printed functions say of it is true for every input that the row lets in. -/
import Derived.Test.YtfkhhmnkmddjhaaMx7
import Derived.Test.YtfkhhmnkmddjhaaAid
import Derived.Test.YtfkhhmnkmddjhaaL03
import Derived.Test.YtfkhhmnkmddjhaaL03k
namespace Go.Proofs.Ytfkhhmnkmddjhaa.Pure
open Go Go.RowKit Go.Proofs.Ytfkhhmnkmddjhaa.M Go.Proofs.Ytfkhhmnkmddjhaa.Aid Go.Proofs.YtfkhhmnkmddjhaaW.PrintWords Go.Proofs.YtfkhhmnkmddjhaaW.PrintLast Go.Proofs.YtfkhhmnkmddjhaaW.PrintMore
set_option linter.unusedVariables false
set_option linter.unusedSimpArgs false

-- IMPORT L03
-- IMPORT L03k
theorem InsnKinds : fairleadlaw03_InsnKinds.Pure := by
  intro a ⟨h0, h1⟩
  refine ⟨27, ?_⟩
  have rj : fairleadref03_Jumps.f a = insn_Jumps.f a := by
    rw [jumps_is]
    unfold fairleadref03_Jumps.f
    repeat' split
    all_goals first | exact sdt (by unfold Jmps; omega) | skip
    by_cases h : a = 77
    · rw [beq_iff_eq.2 h]; exact sdt (by unfold Jmps; omega)
    · rw [beq_eq_false_iff_ne.2 h]; exact sdf (by unfold Jmps; omega)
  have re : fairleadref03_Ends.f a = insn_Ends.f a := rfl
  unfold fairleadlaw03_InsnKinds.f
  rw [awake03, known_is h0 h1 27 (by decide), ref_known h0 h1 27 (by decide), rj, re, jumps_is, ends_is]
  simp

end Go.Proofs.Ytfkhhmnkmddjhaa.Pure
