/- The law InsnPrograms, as numbers and lists: what the printed functions say of it is true for every input that the row lets in. -/
import Derived.Test.YtfkhhmnkmddjhaaMx9
import Derived.Test.YtfkhhmnkmddjhaaAid
import Derived.Test.YtfkhhmnkmddjhaaL03
import Derived.Test.YtfkhhmnkmddjhaaL03p
namespace Go.Proofs.Ytfkhhmnkmddjhaa.Pure
open Go Go.RowKit Go.Proofs.Ytfkhhmnkmddjhaa.M Go.Proofs.Ytfkhhmnkmddjhaa.Aid Go.Proofs.YtfkhhmnkmddjhaaW.PrintWords Go.Proofs.YtfkhhmnkmddjhaaW.PrintLast Go.Proofs.YtfkhhmnkmddjhaaW.PrintMore
set_option linter.unusedVariables false
set_option linter.unusedSimpArgs false

-- IMPORT L03
-- IMPORT L03p
theorem InsnPrograms : fairleadlaw03_InsnPrograms.Pure := by
  intro l b ⟨_, ho⟩ ⟨_, hb⟩
  refine ⟨(20001 + 0) + 1, ?_⟩
  generalize hK : 20001 + 0 = K
  have hk : 20001 ≤ K := by omega
  unfold fairleadlaw03_InsnPrograms.f
  rw [awake03]
  simp only [Option.bind_some]
  have skip : fairleadlaw03_InsnPrograms.j0 (K + 1) l b true true = some true := by simp only [fairleadlaw03_InsnPrograms.j0]; rw [if_pos trivial]
  by_cases h1 : (l.length : Int) > 3000
  · rw [if_pos h1, skip]
  · rw [if_neg h1]
    by_cases h2 : (b.length : Int) > 20000
    · rw [decide_eq_true h2, skip]
    · rw [decide_eq_false h2]
      have e := all_is hb (by omega) K (by omega)
      have e2 := bytes_is (l := l) (fun x hx => ho x hx) (by omega) K (by omega)
      have hs : (ALL b).1.length ≤ 20000 := by unfold ALL; split <;> simp only [all_len, List.length_nil] <;> omega
      simp only [fairleadlaw03_InsnPrograms.j0]
      rw [if_neg (by decide), e.1, e.2]
      simp only [Option.bind_some]
      rw [same3 _ (by omega) K (by omega), e2.1, e2.2]
      simp

end Go.Proofs.Ytfkhhmnkmddjhaa.Pure
