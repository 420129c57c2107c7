/- The law InsnApart, as numbers and lists: what the printed functions say of it is true for every input that the row lets in. -/
import Derived.Test.YtfkhhmnkmddjhaaMx2
import Derived.Test.YtfkhhmnkmddjhaaAid
import Derived.Test.YtfkhhmnkmddjhaaL03
namespace Go.Proofs.Ytfkhhmnkmddjhaa.Pure
open Go Go.RowKit Go.Proofs.Ytfkhhmnkmddjhaa.M Go.Proofs.Ytfkhhmnkmddjhaa.Aid Go.Proofs.YtfkhhmnkmddjhaaW.PrintWords Go.Proofs.YtfkhhmnkmddjhaaW.PrintLast Go.Proofs.YtfkhhmnkmddjhaaW.PrintMore
set_option linter.unusedVariables false
set_option linter.unusedSimpArgs false

-- IMPORT L03
theorem InsnApart : fairleadlaw03_InsnApart.Pure := by
  intro a b c d a' b' c' d' ⟨h1, h2, h3, h4⟩ ⟨h1', h2', h3', h4'⟩
  unfold fairleadlaw03_InsnApart.f
  rw [awake03]
  simp only [Option.bind_some, if_true, insn_Encode.f]
  rw [str_beq (encode_bytes h1 h2 h3 h4) (encode_bytes h1' h2' h3' h4')]
  simp only [Option.some.injEq, beq_iff_eq]
  rw [Bool.eq_iff_iff]
  simp only [decide_eq_true_eq, List.cons.injEq, and_true, Bool.and_eq_true, beq_iff_eq]
  omega

end Go.Proofs.Ytfkhhmnkmddjhaa.Pure
