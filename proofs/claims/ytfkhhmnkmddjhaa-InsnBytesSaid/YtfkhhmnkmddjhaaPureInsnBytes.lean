/- The law InsnBytes, as numbers and lists: what the printed functions say of it is true for every input that the row lets in. -/
import Derived.Test.YtfkhhmnkmddjhaaMx5
import Derived.Test.YtfkhhmnkmddjhaaAid
import Derived.Test.YtfkhhmnkmddjhaaL03
namespace Go.Proofs.Ytfkhhmnkmddjhaa.Pure
open Go Go.RowKit Go.Proofs.Ytfkhhmnkmddjhaa.M Go.Proofs.Ytfkhhmnkmddjhaa.Aid Go.Proofs.YtfkhhmnkmddjhaaW.PrintWords Go.Proofs.YtfkhhmnkmddjhaaW.PrintLast Go.Proofs.YtfkhhmnkmddjhaaW.PrintMore
set_option linter.unusedVariables false
set_option linter.unusedSimpArgs false

-- IMPORT L03
theorem InsnBytes : fairleadlaw03_InsnBytes.Pure := by
  intro a b c d l ⟨h1, h2, h3, h4⟩ ⟨_, hl⟩
  refine ⟨5, ?_⟩
  obtain ⟨r, hr1, hr2⟩ := decode_same hl 5 (by decide)
  unfold fairleadlaw03_InsnBytes.f
  rw [awake03, hr1, hr2, ref_encode h1 h4]
  simp [insn_Encode.f]

end Go.Proofs.Ytfkhhmnkmddjhaa.Pure
