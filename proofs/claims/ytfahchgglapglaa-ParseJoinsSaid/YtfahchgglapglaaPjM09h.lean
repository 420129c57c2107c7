/- Layer 9 (lex), plain, for the layers above: a text behind another one. -/
import Derived.Test.YtfahchgglapglaaPjMx0
import Derived.Test.YtfahchgglapglaaPjMx5
import Derived.Test.YtfahchgglapglaaPjAid
import Derived.Test.YtfahchgglapglaaPjK09
import Derived.Test.YtfahchgglapglaaPjM09g
namespace Go.Proofs.Ytfahchgglapglaa.Pure
open Go Go.RowKit Go.Proofs.Ytfahchgglapglaa.M Go.Proofs.Ytfahchgglapglaa.Aid Go.Proofs.YtfahchgglapglaaW.PrintWords Go.Proofs.YtfahchgglapglaaW.PrintLast Go.Proofs.YtfahchgglapglaaW.PrintMore
set_option linter.unusedVariables false
set_option linter.unusedSimpArgs false
-- NEEDS lex_All.f
-- IMPORT K09
-- IMPORT M09g
theorem lenL_app (l r : List Int) : lenL (l ++ 10 :: r) = lenL l := by
  induction l with
  | nil => simp only [List.nil_append, lenL]; rw [if_neg (by decide)]
  | cons c l ih => simp only [List.cons_append, lenL]; rw [ih]
theorem blankL_app (l r : List Int) : ∀ nt, blankL l nt = l.length → blankL (l ++ 10 :: r) nt = l.length + 1 + blankL r false := by
  induction l with
  | nil =>
    intro nt _
    cases nt with
    | true => simp only [List.nil_append, blankL, List.length_nil]; rw [show ((10 : Int) != 10) = false from rfl]; first | done | omega
    | false => simp only [List.nil_append, blankL, List.length_nil]; rw [if_neg (by decide), if_pos (by decide)]; first | done | omega
  | cons c l ih =>
    intro nt h
    cases nt with
    | true =>
      simp only [List.cons_append, blankL, List.length_cons] at h ⊢
      rw [ih _ (by omega)]; omega
    | false =>
      simp only [List.cons_append, blankL, List.length_cons] at h ⊢
      by_cases h1 : c = 35
      · rw [if_pos h1] at h ⊢
        rw [ih _ (by omega)]; omega
      · rw [if_neg h1] at h ⊢
        by_cases h2 : wsP c
        · rw [if_pos h2] at h ⊢
          rw [ih _ (by omega)]; omega
        · rw [if_neg h2] at h; omega
theorem blankL_stop (l r : List Int) : ∀ nt, blankL l nt < l.length → blankL (l ++ r) nt = blankL l nt := by
  induction l with
  | nil => intro nt h; simp at h
  | cons c l ih =>
    intro nt h
    cases nt with
    | true =>
      simp only [List.cons_append, blankL, List.length_cons] at h ⊢
      rw [ih _ (by omega)]
    | false =>
      simp only [List.cons_append, blankL, List.length_cons] at h ⊢
      by_cases h1 : c = 35
      · rw [if_pos h1] at h ⊢
        rw [if_pos h1, ih _ (by omega)]
      · rw [if_neg h1] at h ⊢
        rw [if_neg h1]
        by_cases h2 : wsP c
        · rw [if_pos h2] at h ⊢
          rw [if_pos h2, ih _ (by omega)]
        · rw [if_neg h2, if_neg h2]
theorem one_app (l r : List Int) (he : (ONE l).2.2.2 = 0) (hl : l ≠ []) : ONE (l ++ 10 :: r) = ONE l := by
  have hf := one_first l he hl
  have r0 : rd (l ++ 10 :: r) 0 = rd l 0 := by cases l with | nil => exact absurd rfl hl | cons a l => rfl
  have hs : signL (l ++ 10 :: r) = signL l := by
    unfold signL
    rw [r0]
    have e : (1 < (l ++ 10 :: r).length ∧ rd (l ++ 10 :: r) 1 = 61) ↔ (1 < l.length ∧ rd l 1 = 61) := by
      cases l with
      | nil => exact absurd rfl hl
      | cons a l => cases l with
        | nil => simp [rd_cons1]
        | cons b l => simp [rd_cons1]
    by_cases h : 1 < l.length ∧ rd l 1 = 61
    · rw [if_pos h, if_pos (e.2 h)]
    · rw [if_neg h, if_neg (fun x => h (e.1 x))]
  unfold ONE
  rw [r0, lenL_app, hs, List.take_append_of_le_length (lenL_le l)]
/-- The tokens of a text with another one behind it, on a line of its own. -/
theorem allP_app (a b u : ByteArray) (hu : ch u = ch a ++ 10 :: ch b) (R : List S39) (hR : allP u (u.size + 1) (a.size + 1 + blankL (ch b) false) = (R, 0, -1)) (f : Nat) : ∀ p, p ≤ a.size → a.size - p < f → (allP a f p).2.1 = 0 → ∀ f', u.size - (if p < a.size then p else a.size + 1 + blankL (ch b) false) < f' → allP u f' (if p < a.size then p else a.size + 1 + blankL (ch b) false) = ((allP a f p).1.dropLast ++ R, 0, -1) := by
  have hus : u.size = a.size + 1 + b.size := by rw [← ch_len u, hu, List.length_append, List.length_cons, ch_len, ch_len]; omega
  have hbb := blankL_le (ch b) false
  rw [ch_len] at hbb
  induction f with
  | zero => intro p _ h; omega
  | succ f ih =>
    intro p hp h h0 f' hf'
    rw [allP] at h0
    rw [allP.eq_2 a p f]
    by_cases hlt : p < a.size
    · rw [if_pos hlt] at h0 hf' ⊢
      rw [if_pos hlt]
      by_cases he : (ONE ((ch a).drop p)).2.2.2 = 0
      · have hn := one_len a p hlt he
        have hbl := blankL_le ((ch a).drop (p + (ONE ((ch a).drop p)).2.1)) false
        rw [List.length_drop, ch_len] at hbl
        rw [if_pos he] at h0 ⊢
        by_cases hr : (allP a f (p + (ONE ((ch a).drop p)).2.1 + blankL ((ch a).drop (p + (ONE ((ch a).drop p)).2.1)) false)).2.1 = 0
        · rw [if_pos hr]
          obtain ⟨f', rfl⟩ : ∃ m, f' = m + 1 := ⟨f' - 1, by omega⟩
          have hne : (ch a).drop p ≠ [] := fun e => by have := congrArg List.length e; rw [List.length_drop, ch_len] at this; simp at this; omega
          have hd : ∀ q, q ≤ a.size → (ch u).drop q = (ch a).drop q ++ 10 :: ch b := fun q hq => by rw [hu, List.drop_append_of_le_length (by rw [ch_len]; exact hq)]
          have hone : ONE ((ch u).drop p) = ONE ((ch a).drop p) := by rw [hd p hp]; exact one_app _ _ he hne
          have hRne := (allP_ok a f (p + (ONE ((ch a).drop p)).2.1 + blankL ((ch a).drop (p + (ONE ((ch a).drop p)).2.1)) false) (by omega) (by omega) hr).2
          have hbk : p + (ONE ((ch a).drop p)).2.1 + blankL ((ch u).drop (p + (ONE ((ch a).drop p)).2.1)) false = (if p + (ONE ((ch a).drop p)).2.1 + blankL ((ch a).drop (p + (ONE ((ch a).drop p)).2.1)) false < a.size then p + (ONE ((ch a).drop p)).2.1 + blankL ((ch a).drop (p + (ONE ((ch a).drop p)).2.1)) false else a.size + 1 + blankL (ch b) false) := by
            rw [hd _ hn.2]
            have hlen : ((ch a).drop (p + (ONE ((ch a).drop p)).2.1)).length = a.size - (p + (ONE ((ch a).drop p)).2.1) := by rw [List.length_drop, ch_len]
            by_cases hx : p + (ONE ((ch a).drop p)).2.1 + blankL ((ch a).drop (p + (ONE ((ch a).drop p)).2.1)) false < a.size
            · rw [if_pos hx, blankL_stop _ _ _ (by omega)]
            · rw [if_neg hx, blankL_app _ _ _ (by omega)]; omega
          have hT : TOK u p = TOK a p := by
            unfold TOK
            rw [hone]
            have : u.extract p (p + (ONE ((ch a).drop p)).2.1) = a.extract p (p + (ONE ((ch a).drop p)).2.1) := by
              apply ch_inj
              rw [ch_extract, ch_extract, hu, List.take_append_of_le_length (by rw [ch_len]; omega)]
            rw [this]
          have g := ih _ (show p + (ONE ((ch a).drop p)).2.1 + blankL ((ch a).drop (p + (ONE ((ch a).drop p)).2.1)) false ≤ a.size by omega) (by omega) hr f' (by
            split
            · omega
            · omega)
          rw [allP.eq_2 u p f', if_pos (by omega), hone, if_pos he, hbk, g, if_pos rfl, hT]
          simp only
          rw [List.dropLast_cons_of_ne_nil hRne]
          rfl
        · rw [if_neg hr] at h0
          exact absurd h0 hr
      · rw [if_neg he] at h0
        exact absurd h0 he
    · rw [if_neg hlt] at hf' ⊢
      rw [if_neg hlt, allP_fuel u f' (u.size + 1) _ (by omega) hf' (by omega), hR]
      rfl
theorem ALL_app (a b : ByteArray) (hz : a.size + b.size + 1 ≤ 8192) (ha : (ALL a).2.1 = 0) (hb : (ALL b).2.1 = 0) : ALL ((a ++ ⟨#[10]⟩) ++ b) = ((ALL a).1.dropLast ++ (ALL b).1.map (shift (a.size + 1)), 0, -1) := by
  obtain ⟨_, a1, a2, a3⟩ := ALL_from a ha
  obtain ⟨_, b1, b2, b3⟩ := ALL_from b hb
  have hu : ch ((a ++ ⟨#[10]⟩) ++ b) = ch a ++ 10 :: ch b := by
    rw [ch_app, ch_app]
    show (ch a ++ [10]) ++ ch b = _
    simp
  have hs1 : (a ++ (⟨#[10]⟩ : ByteArray)).size = a.size + 1 := by rw [ByteArray.size_append]; rfl
  have hus : ((a ++ (⟨#[10]⟩ : ByteArray)) ++ b).size = a.size + 1 + b.size := by rw [ByteArray.size_append, hs1]
  have hbo := (allP_ok b (b.size + 1) (blankL (ch b) false) b3 (by omega) b1).1
  have hR : allP ((a ++ ⟨#[10]⟩) ++ b) (((a ++ ⟨#[10]⟩) ++ b).size + 1) (a.size + 1 + blankL (ch b) false) = ((ALL b).1.map (shift (a.size + 1)), 0, -1) := by
    have := allP_shift (a ++ ⟨#[10]⟩) b (((a ++ ⟨#[10]⟩) ++ b).size + 1) (blankL (ch b) false) b3 (by omega)
    rw [hs1] at this
    rw [this, allP_fuel b (((a ++ ⟨#[10]⟩) ++ b).size + 1) (b.size + 1) (blankL (ch b) false) b3 (by omega) (by omega)]
    rw [b2]
    unfold shiftR
    rw [if_pos b1, b1]
  have hst : blankL (ch ((a ++ ⟨#[10]⟩) ++ b)) false = (if blankL (ch a) false < a.size then blankL (ch a) false else a.size + 1 + blankL (ch b) false) := by
    rw [hu]
    by_cases hx : blankL (ch a) false < a.size
    · rw [if_pos hx, blankL_stop _ _ _ (by rw [ch_len]; exact hx)]
    · rw [if_neg hx, blankL_app _ _ _ (by rw [ch_len]; omega), ch_len]
  refine ALL_of _ (by omega) _ ?_
  rw [hst, a2]
  exact allP_app a b _ hu _ hR (a.size + 1) _ a3 (by omega) a1 _ (by split <;> omega)
end Go.Proofs.Ytfahchgglapglaa.Pure
