/- Layer 9 (lex), plain, for the layers above: a text that is cut off ahead of a token. -/
import Derived.Test.YtfahchgglapglaaPjMx0
import Derived.Test.YtfahchgglapglaaPjMx5
import Derived.Test.YtfahchgglapglaaPjAid
import Derived.Test.YtfahchgglapglaaPjK09
namespace Go.Proofs.Ytfahchgglapglaa.Pure
open Go Go.RowKit Go.Proofs.Ytfahchgglapglaa.M Go.Proofs.Ytfahchgglapglaa.Aid Go.Proofs.YtfahchgglapglaaW.PrintWords Go.Proofs.YtfahchgglapglaaW.PrintLast Go.Proofs.YtfahchgglapglaaW.PrintMore
set_option linter.unusedVariables false
set_option linter.unusedSimpArgs false
-- NEEDS lex_All.f
-- IMPORT K09
/-- Where a text's tokens begin. -/
theorem ALL_from (s : ByteArray) (h0 : (ALL s).2.1 = 0) : s.size ≤ 8192 ∧ (allP s (s.size + 1) (blankL (ch s) false)).2.1 = 0 ∧ (ALL s).1 = (allP s (s.size + 1) (blankL (ch s) false)).1 ∧ blankL (ch s) false ≤ s.size := by
  have hb := blankL_le (ch s) false
  rw [ch_len] at hb
  unfold ALL at h0 ⊢
  by_cases hz : 8192 < s.size
  · rw [if_pos hz] at h0; exact absurd h0 (by decide)
  · rw [if_neg hz] at h0 ⊢
    unfold fin at h0 ⊢
    by_cases he : (allP s (s.size + 1) (blankL (ch s) false)).2.1 = 0
    · rw [if_pos he, List.nil_append]
      exact ⟨by omega, he, rfl, hb⟩
    · rw [if_neg he] at h0; exact absurd h0 he
theorem ALL_of (s : ByteArray) (hz : s.size ≤ 8192) (l : List S39) (h : allP s (s.size + 1) (blankL (ch s) false) = (l, 0, -1)) : ALL s = (l, 0, -1) := by
  unfold ALL fin
  rw [if_neg (by omega), h, if_pos rfl, List.nil_append]
end Go.Proofs.Ytfahchgglapglaa.Pure
