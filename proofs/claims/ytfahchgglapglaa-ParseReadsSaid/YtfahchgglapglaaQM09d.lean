/- Layer 9 (lex), plain, for the layers above: the program's part. -/
import Derived.Test.YtfahchgglapglaaQMx0
import Derived.Test.YtfahchgglapglaaQMx3
import Derived.Test.YtfahchgglapglaaQAid
import Derived.Test.YtfahchgglapglaaQM09
import Derived.Test.YtfahchgglapglaaQM09b
namespace Go.Proofs.Ytfahchgglapglaa.Pure
open Go Go.RowKit Go.Proofs.Ytfahchgglapglaa.M Go.Proofs.Ytfahchgglapglaa.Aid Go.Proofs.YtfahchgglapglaaW.PrintWords Go.Proofs.YtfahchgglapglaaW.PrintLast Go.Proofs.YtfahchgglapglaaW.PrintMore
set_option linter.unusedVariables false
set_option linter.unusedSimpArgs false
-- NEEDS lex_Is.f
-- IMPORT M09
-- IMPORT M09b
theorem allP_len (s : ByteArray) (f : Nat) : ∀ p, (allP s f p).1.length ≤ f := by
  induction f with
  | zero => intro p; exact Nat.le_refl _
  | succ f ih =>
    intro p
    simp only [allP]
    split
    · split
      · split
        · rw [List.length_cons]
          have := ih (p + (ONE ((ch s).drop p)).2.1 + blankL ((ch s).drop (p + (ONE ((ch s).drop p)).2.1)) false)
          omega
        · simp
      · simp
    · simp
theorem ALL_len (s : ByteArray) : (ALL s).1.length ≤ 8193 := by
  unfold ALL
  split
  · simp
  · unfold fin
    have := allP_len s (s.size + 1) (blankL (ch s) false)
    split
    · rw [List.nil_append]; show (allP s _ _).1.length ≤ _; omega
    · simp
theorem allP_ok (s : ByteArray) (f : Nat) : ∀ p, p ≤ s.size → s.size - p < f → (allP s f p).2.1 = 0 → (allP s f p).2.2 = -1 ∧ (allP s f p).1 ≠ [] := by
  induction f with
  | zero => intro p _ h; omega
  | succ f ih =>
    intro p hp h h0
    simp only [allP] at h0 ⊢
    by_cases hlt : p < s.size
    · rw [if_pos hlt] at h0 ⊢
      by_cases he : (ONE ((ch s).drop p)).2.2.2 = 0
      · have hn := one_len s p hlt he
        have hbl := blankL_le ((ch s).drop (p + (ONE ((ch s).drop p)).2.1)) false
        rw [List.length_drop, ch_len] at hbl
        rw [if_pos he] at h0 ⊢
        by_cases hr : (allP s f (p + (ONE ((ch s).drop p)).2.1 + blankL ((ch s).drop (p + (ONE ((ch s).drop p)).2.1)) false)).2.1 = 0
        · rw [if_pos hr]
          exact ⟨(ih _ (by omega) (by omega) hr).1, List.cons_ne_nil _ _⟩
        · rw [if_neg hr] at h0
          exact absurd h0 hr
      · rw [if_neg he] at h0
        exact absurd h0 he
    · rw [if_neg hlt] at h0 ⊢
      exact ⟨rfl, List.cons_ne_nil _ _⟩
end Go.Proofs.Ytfahchgglapglaa.Pure
