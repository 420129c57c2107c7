/- Layer 9 (lex), plain: one token, cut out of its text; blanks ahead; fuel. -/
import Derived.Test.YtbiccohcikfgeaaMx2
import Derived.Test.YtbiccohcikfgeaaMx4
import Derived.Test.YtbiccohcikfgeaaMx5
import Derived.Test.YtbiccohcikfgeaaMx8
import Derived.Test.YtbiccohcikfgeaaAid
import Derived.Test.YtbiccohcikfgeaaL09
import Derived.Test.YtbiccohcikfgeaaL09a
import Derived.Test.YtbiccohcikfgeaaL09b
import Derived.Test.YtbiccohcikfgeaaL09c
import Derived.Test.YtbiccohcikfgeaaL09d
namespace Go.Proofs.Ytbiccohcikfgeaa.Pure
open Go Go.RowKit Go.Proofs.Ytbiccohcikfgeaa.M Go.Proofs.Ytbiccohcikfgeaa.Aid Go.Proofs.YtbiccohcikfgeaaW.PrintWords Go.Proofs.YtbiccohcikfgeaaW.PrintLast Go.Proofs.YtbiccohcikfgeaaW.PrintMore
set_option linter.unusedVariables false
set_option linter.unusedSimpArgs false

-- NEEDS lex_length.f lex_blank.f lex_goes.f lex_small.f lex_digit.f fairleadref09_run.f lex_All.f lex_Is.f fairleadref09_All.f fairleadref09_Is.f fairleadref09_Same.f fairleadlaw09_awake.f
-- IMPORT L09
-- IMPORT L09a
-- IMPORT L09b
-- IMPORT L09c
-- IMPORT L09d

theorem allP_fuel (s : ByteArray) (f : Nat) : ∀ (f' p : Nat), p ≤ s.size → s.size - p < f → s.size - p < f' → allP s f p = allP s f' p := by
  induction f with
  | zero => intro f' p _ h; omega
  | succ f ih =>
    intro f' p hp h1 h2
    obtain ⟨f', rfl⟩ : ∃ m, f' = m + 1 := ⟨f' - 1, by omega⟩
    simp only [allP]
    by_cases hlt : p < s.size
    · rw [if_pos hlt, if_pos hlt]
      by_cases he : (ONE ((ch s).drop p)).2.2.2 = 0
      · have hn := one_len s p hlt he
        have hbl := blankL_le ((ch s).drop (p + (ONE ((ch s).drop p)).2.1)) false
        rw [List.length_drop, ch_len] at hbl
        rw [if_pos he, if_pos he, ih f' _ (by omega) (by omega) (by omega)]
      · rw [if_neg he, if_neg he]
    · rw [if_neg hlt, if_neg hlt]
theorem allP_ok (s : ByteArray) (f : Nat) : ∀ p, p ≤ s.size → s.size - p < f → (allP s f p).2.1 = 0 → (allP s f p).2.2 = -1 ∧ (allP s f p).1 ≠ [] := by
  induction f with
  | zero => intro p _ h; omega
  | succ f ih =>
    intro p hp h h0
    simp only [allP] at h0 ⊢
    by_cases hlt : p < s.size
    · rw [if_pos hlt] at h0 ⊢
      by_cases he : (ONE ((ch s).drop p)).2.2.2 = 0
      · have hn := one_len s p hlt he
        have hbl := blankL_le ((ch s).drop (p + (ONE ((ch s).drop p)).2.1)) false
        rw [List.length_drop, ch_len] at hbl
        rw [if_pos he] at h0 ⊢
        by_cases hr : (allP s f (p + (ONE ((ch s).drop p)).2.1 + blankL ((ch s).drop (p + (ONE ((ch s).drop p)).2.1)) false)).2.1 = 0
        · rw [if_pos hr]
          exact ⟨(ih _ (by omega) (by omega) hr).1, List.cons_ne_nil _ _⟩
        · rw [if_neg hr] at h0
          exact absurd h0 hr
      · rw [if_neg he] at h0
        exact absurd h0 he
    · rw [if_neg hlt] at h0 ⊢
      exact ⟨rfl, List.cons_ne_nil _ _⟩
theorem one_err (l : List Int) : (ONE l).2.2.2 = 0 ∨ (ONE l).2.2.2 = 5 ∨ (ONE l).2.2.2 = 6 := by
  unfold ONE
  split
  · exact .inl rfl
  · split
    · split
      · exact .inl rfl
      · exact .inr (.inr rfl)
    · split
      · exact .inl rfl
      · exact .inr (.inl rfl)
theorem allP_bad (s : ByteArray) (f : Nat) : ∀ p, p ≤ s.size → s.size - p < f → (allP s f p).2.1 ≠ 0 → (allP s f p).1 = [] ∧ ((allP s f p).2.1 = 5 ∨ (allP s f p).2.1 = 6) ∧ (p : Int) ≤ (allP s f p).2.2 ∧ (allP s f p).2.2 < s.size := by
  induction f with
  | zero => intro p _ h; omega
  | succ f ih =>
    intro p hp h h0
    simp only [allP] at h0 ⊢
    by_cases hlt : p < s.size
    · rw [if_pos hlt] at h0 ⊢
      by_cases he : (ONE ((ch s).drop p)).2.2.2 = 0
      · have hn := one_len s p hlt he
        have hbl := blankL_le ((ch s).drop (p + (ONE ((ch s).drop p)).2.1)) false
        rw [List.length_drop, ch_len] at hbl
        rw [if_pos he] at h0 ⊢
        by_cases hr : (allP s f (p + (ONE ((ch s).drop p)).2.1 + blankL ((ch s).drop (p + (ONE ((ch s).drop p)).2.1)) false)).2.1 = 0
        · rw [if_pos hr] at h0
          exact absurd rfl h0
        · rw [if_neg hr]
          have h4 := ih _ (by omega) (by omega) hr
          exact ⟨rfl, h4.2.1, Int.le_trans (by omega) h4.2.2.1, h4.2.2.2⟩
      · rw [if_neg he]
        exact ⟨rfl, by rcases one_err ((ch s).drop p) with e | e; exact absurd e he; exact e, Int.le_refl _, by show (p : Int) < _; omega⟩
    · rw [if_neg hlt] at h0
      exact absurd rfl h0
/-- A byte that goes on no word, behind a word. -/
theorem lenL_cut (l : List Int) (c : Int) (r : List Int) (hc : ¬ goesP c) : lenL (l.take (lenL l) ++ c :: r) = lenL l := by
  induction l with
  | nil => simp only [lenL, List.take_nil, List.nil_append]; rw [if_neg hc]
  | cons x l ih =>
    by_cases h : goesP x
    · have e : lenL (x :: l) = lenL l + 1 := by simp only [lenL]; rw [if_pos h]; omega
      rw [e, List.take_succ_cons, List.cons_append]
      simp only [lenL]
      rw [if_pos h, ih]
      omega
    · have e : lenL (x :: l) = 0 := by simp only [lenL]; rw [if_neg h]
      rw [e, List.take_zero, List.nil_append]
      simp only [lenL]
      rw [if_neg hc]
theorem rd_cons (x : Int) (l : List Int) : rd (x :: l) 0 = x := rfl
theorem rd_cons1 (x y : Int) (l : List Int) : rd (x :: y :: l) 1 = y := rfl
theorem one_first (l : List Int) (he : (ONE l).2.2.2 = 0) (hl : l ≠ []) : 1 ≤ (ONE l).2.1 ∧ (ONE l).2.1 ≤ l.length ∧ (smallP (rd l 0) ∨ digitP (rd l 0) ∨ 0 < signL l) := by
  obtain ⟨a, t, rfl⟩ := List.exists_cons_of_ne_nil hl
  have hle := lenL_le (a :: t)
  have hg : goesP a → 1 ≤ lenL (a :: t) := fun h => by simp only [lenL]; rw [if_pos h]; omega
  unfold ONE at he ⊢
  rw [rd_cons] at he ⊢
  by_cases h1 : smallP a
  · rw [if_pos h1]
    exact ⟨hg (.inl h1), hle, .inl h1⟩
  · rw [if_neg h1] at he ⊢
    by_cases h2 : digitP a
    · rw [if_pos h2] at he ⊢
      revert he
      cases NUM ((a :: t).take (lenL (a :: t))) with
      | none => intro h; exact absurd (show (6 : Int) = 0 from h) (by decide)
      | some v => intro _; exact ⟨hg (.inr (.inl h2)), hle, .inr (.inl h2)⟩
    · rw [if_neg h2] at he ⊢
      by_cases h3 : 0 < signL (a :: t)
      · rw [if_pos h3]
        refine ⟨h3, ?_, .inr (.inr h3)⟩
        show signL (a :: t) ≤ _
        unfold signL
        rw [List.length_cons]
        split
        · split
          · omega
          · split <;> omega
        · split <;> omega
      · rw [if_neg h3] at he
        exact absurd (show (5 : Int) = 0 from he) (by decide)
theorem sign_first (l : List Int) (h : 0 < signL l) : rd l 0 = 61 ∨ rd l 0 = 33 ∨ rd l 0 = 60 ∨ rd l 0 = 62 ∨ rd l 0 = 59 ∨ rd l 0 = 44 ∨ rd l 0 = 38 := by
  unfold signL at h
  by_cases h1 : rd l 0 = 61 ∨ rd l 0 = 33 ∨ rd l 0 = 60 ∨ rd l 0 = 62
  · omega
  · rw [if_neg h1] at h
    by_cases h2 : rd l 0 = 59 ∨ rd l 0 = 44 ∨ rd l 0 = 38
    · omega
    · rw [if_neg h2] at h
      omega
/-- A token, cut out, with a blank behind it: the same token. -/
theorem one_cut (l : List Int) (he : (ONE l).2.2.2 = 0) (hl : l ≠ []) (c : Int) (r : List Int) (hc : ¬ goesP c) (hc2 : c ≠ 61) : ONE (l.take (ONE l).2.1 ++ c :: r) = ONE l := by
  obtain ⟨h1, h2, _⟩ := one_first l he hl
  obtain ⟨a, t, rfl⟩ := List.exists_cons_of_ne_nil hl
  generalize hN : (ONE (a :: t)).2.1 = N at *
  obtain ⟨n, rfl⟩ : ∃ n, N = n + 1 := ⟨N - 1, by omega⟩
  rw [List.take_succ_cons, List.cons_append]
  unfold ONE at he hN ⊢
  rw [rd_cons] at he hN ⊢
  rw [rd_cons]
  by_cases c1 : smallP a
  · rw [if_pos c1] at hN ⊢
    rw [if_pos c1]
    have hN' : lenL (a :: t) = n + 1 := hN
    have := lenL_cut (a :: t) c r hc
    rw [hN', List.take_succ_cons, List.cons_append] at this
    rw [this, hN']
  · rw [if_neg c1] at he hN ⊢
    rw [if_neg c1]
    by_cases c2 : digitP a
    · rw [if_pos c2] at he hN ⊢
      rw [if_pos c2]
      have hN' : lenL (a :: t) = n + 1 := by
        revert he hN
        cases NUM ((a :: t).take (lenL (a :: t))) with
        | none => intro h; exact absurd (show (6 : Int) = 0 from h) (by decide)
        | some v => intro _ h; exact h
      have := lenL_cut (a :: t) c r hc
      rw [hN', List.take_succ_cons, List.cons_append] at this
      have ht : (a :: (t.take n ++ c :: r)).take (n + 1) = (a :: t).take (n + 1) := by
        rw [List.length_cons] at h2
        rw [List.take_succ_cons, List.take_succ_cons, List.take_left' (by rw [List.length_take]; omega)]
      rw [this, hN', ht]
    · rw [if_neg c2] at he hN ⊢
      rw [if_neg c2]
      by_cases c3 : 0 < signL (a :: t)
      · rw [if_pos c3] at hN ⊢
        have hN' : signL (a :: t) = n + 1 := hN
        have : signL (a :: (t.take n ++ c :: r)) = n + 1 := by
          rw [← hN']
          unfold signL at hN' ⊢
          rw [rd_cons] at hN' ⊢
          rw [rd_cons]
          cases n with
          | zero =>
            rw [List.take_zero, List.nil_append, rd_cons1]
            rw [if_neg (show ¬ (1 < (a :: c :: r).length ∧ c = 61) from fun e => hc2 e.2)]
            split at hN'
            · rename_i q
              rw [if_pos q, if_pos q]
              split at hN'
              · omega
              · rename_i q2
                rw [if_neg q2]
            · rename_i q
              rw [if_neg q, if_neg q]
          | succ m =>
            split at hN'
            · rename_i q
              rw [if_pos q, if_pos q]
              split at hN'
              · rename_i q2
                obtain ⟨b, t2, rfl⟩ : ∃ b t2, t = b :: t2 := by
                  cases t with
                  | nil => exact absurd q2.1 (by simp)
                  | cons b t2 => exact ⟨b, t2, rfl⟩
                rw [List.take_succ_cons, List.cons_append, rd_cons1, rd_cons1] at *
                rw [if_pos q2, if_pos ⟨by simp, q2.2⟩]
              · split at hN' <;> omega
            · split at hN' <;> omega
        rw [this, if_pos (by omega), hN']
      · rw [if_neg c3] at he
        exact absurd (show (5 : Int) = 0 from he) (by decide)
/-- A token does not begin with a blank. -/
theorem one_noblank (l : List Int) (he : (ONE l).2.2.2 = 0) (hl : l ≠ []) (r : List Int) : blankL (l.take (ONE l).2.1 ++ r) false = 0 := by
  obtain ⟨h1, _, h3⟩ := one_first l he hl
  obtain ⟨a, t, rfl⟩ := List.exists_cons_of_ne_nil hl
  obtain ⟨n, hn⟩ : ∃ n, (ONE (a :: t)).2.1 = n + 1 := ⟨(ONE (a :: t)).2.1 - 1, by omega⟩
  have hs := sign_first (a :: t)
  rw [rd_cons] at h3 hs
  rw [hn, List.take_succ_cons, List.cons_append]
  simp only [blankL]
  unfold smallP digitP at h3
  have h4 : a ≠ 35 ∧ ¬ wsP a := by
    unfold wsP
    rcases h3 with h | h | h
    · omega
    · omega
    · have := hs h
      omega
  rw [if_neg h4.1, if_neg h4.2]
end Go.Proofs.Ytbiccohcikfgeaa.Pure
