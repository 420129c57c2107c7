/- Layer 9 (lex), plain, for the layers above: texts behind one another. -/
import Derived.Test.YtfahchgglapglaaQMx0
import Derived.Test.YtfahchgglapglaaQMx5
import Derived.Test.YtfahchgglapglaaQAid
import Derived.Test.YtfahchgglapglaaQM09
import Derived.Test.YtfahchgglapglaaQM09b
import Derived.Test.YtfahchgglapglaaQM09d
namespace Go.Proofs.Ytfahchgglapglaa.Pure
open Go Go.RowKit Go.Proofs.Ytfahchgglapglaa.M Go.Proofs.Ytfahchgglapglaa.Aid Go.Proofs.YtfahchgglapglaaW.PrintWords Go.Proofs.YtfahchgglapglaaW.PrintLast Go.Proofs.YtfahchgglapglaaW.PrintMore
set_option linter.unusedVariables false
set_option linter.unusedSimpArgs false
-- NEEDS lex_All.f
-- IMPORT M09
-- IMPORT M09b
-- IMPORT M09d
/-- Tokens that lie in a text, one behind the other. -/
def lies (s : ByteArray) : Nat → List S39 → Prop
  | _, [] => False
  | last, t :: r => (r = [] ∧ t = ⟨4, (s.size : Int), ⟨#[]⟩, 0⟩ ∧ last ≤ s.size) ∨ (r ≠ [] ∧ ∃ p n : Nat, t.f1 = (p : Int) ∧ t.f2 = s.extract p (p + n) ∧ last ≤ p ∧ 1 ≤ n ∧ p + n ≤ s.size ∧ t.f0 ≠ 4 ∧ (t.f3 = 0 ∨ t.f0 = 2) ∧ lies s (p + n) r)
theorem one_kind (l : List Int) (he : (ONE l).2.2.2 = 0) : (ONE l).1 ≠ 4 ∧ ((ONE l).2.2.1 = 0 ∨ (ONE l).1 = 2) := by
  unfold ONE at he ⊢
  split at he
  · rename_i h
    rw [if_pos h]
    exact ⟨by show (1 : Int) ≠ 4; decide, .inl rfl⟩
  · rename_i h
    rw [if_neg h]
    split at he
    · rename_i h2
      rw [if_pos h2]
      revert he
      cases NUM (l.take (lenL l)) with
      | none => intro h; exact absurd (show (6 : Int) = 0 from h) (by decide)
      | some v => intro _; exact ⟨by show (2 : Int) ≠ 4; decide, .inr rfl⟩
    · rename_i h2
      rw [if_neg h2]
      split at he
      · rename_i h3
        rw [if_pos h3]
        exact ⟨by show (3 : Int) ≠ 4; decide, .inl rfl⟩
      · exact absurd (show (5 : Int) = 0 from he) (by decide)
theorem allP_lies (s : ByteArray) (f : Nat) : ∀ p last, last ≤ p → p ≤ s.size → s.size - p < f → (allP s f p).2.1 = 0 → lies s last (allP s f p).1 := by
  induction f with
  | zero => intro p last _ _ h; omega
  | succ f ih =>
    intro p last hl hp h h0
    simp only [allP] at h0 ⊢
    by_cases hlt : p < s.size
    · rw [if_pos hlt] at h0 ⊢
      by_cases he : (ONE ((ch s).drop p)).2.2.2 = 0
      · have hn := one_len s p hlt he
        have hk := one_kind _ he
        have hbl := blankL_le ((ch s).drop (p + (ONE ((ch s).drop p)).2.1)) false
        rw [List.length_drop, ch_len] at hbl
        rw [if_pos he] at h0 ⊢
        by_cases hr : (allP s f (p + (ONE ((ch s).drop p)).2.1 + blankL ((ch s).drop (p + (ONE ((ch s).drop p)).2.1)) false)).2.1 = 0
        · rw [if_pos hr]
          have h2 := ih (p + (ONE ((ch s).drop p)).2.1 + blankL ((ch s).drop (p + (ONE ((ch s).drop p)).2.1)) false) (p + (ONE ((ch s).drop p)).2.1) (by omega) (by omega) (by omega) hr
          have h3 := (allP_ok s f _ (by omega) (by omega) hr).2
          exact .inr ⟨h3, p, (ONE ((ch s).drop p)).2.1, rfl, rfl, hl, hn.1, hn.2, hk.1, hk.2, h2⟩
        · rw [if_neg hr] at h0
          exact absurd h0 hr
      · rw [if_neg he] at h0
        exact absurd h0 he
    · rw [if_neg hlt]
      exact .inl ⟨rfl, rfl, by omega⟩
theorem rd_at {l : List S39} {i : Nat} {t : S39} {r : List S39} (h : l.drop i = t :: r) : rd_T39 l i = t ∧ l.length = i + 1 + r.length ∧ l.drop (i + 1) = r := by
  have hlen : (l.drop i).length = r.length + 1 := by rw [h]; rfl
  rw [List.length_drop] at hlen
  have hi : i < l.length := by omega
  have h2 := List.drop_eq_getElem_cons hi
  rw [h] at h2
  refine ⟨?_, by omega, ?_⟩
  · unfold rd_T39
    rw [Int.toNat_natCast, List.getD_eq_getElem?_getD, List.getElem?_eq_getElem hi]
    exact (List.cons.inj h2).1.symm
  · exact (List.cons.inj h2).2.symm
end Go.Proofs.Ytfahchgglapglaa.Pure
