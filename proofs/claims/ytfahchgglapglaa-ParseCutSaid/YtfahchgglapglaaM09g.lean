/- Layer 9 (lex), plain, for the layers above: a text that is cut off ahead of a token. -/
import Derived.Test.YtfahchgglapglaaMx0
import Derived.Test.YtfahchgglapglaaMx5
import Derived.Test.YtfahchgglapglaaAid
import Derived.Test.YtfahchgglapglaaK09
namespace Go.Proofs.Ytfahchgglapglaa.Pure
open Go Go.RowKit Go.Proofs.Ytfahchgglapglaa.M Go.Proofs.Ytfahchgglapglaa.Aid Go.Proofs.YtfahchgglapglaaW.PrintWords Go.Proofs.YtfahchgglapglaaW.PrintLast Go.Proofs.YtfahchgglapglaaW.PrintMore
set_option linter.unusedVariables false
set_option linter.unusedSimpArgs false

-- NEEDS lex_All.f
-- IMPORT K09
theorem lenL_take (l : List Int) : ∀ m, lenL l ≤ m → lenL (l.take m) = lenL l := by
  induction l with
  | nil => intro m _; simp [lenL]
  | cons c r ih =>
    intro m h
    simp only [lenL] at h ⊢
    by_cases hg : goesP c
    · rw [if_pos hg] at h ⊢
      obtain ⟨m, rfl⟩ : ∃ j, m = j + 1 := ⟨m - 1, by omega⟩
      simp only [List.take_succ_cons, lenL]
      rw [if_pos hg, ih m (by omega)]
    · rw [if_neg hg]
      cases m with
      | zero => rfl
      | succ m => simp only [List.take_succ_cons, lenL]; rw [if_neg hg]
theorem blankL_take (l : List Int) : ∀ (nt : Bool) m, blankL l nt ≤ m → blankL (l.take m) nt = blankL l nt := by
  induction l with
  | nil => intro nt m _; simp
  | cons c r ih =>
    intro nt m h
    cases nt with
    | true =>
      simp only [blankL] at h ⊢
      obtain ⟨m, rfl⟩ : ∃ j, m = j + 1 := ⟨m - 1, by omega⟩
      simp only [List.take_succ_cons, blankL]
      rw [ih _ m (by omega)]
    | false =>
      simp only [blankL] at h ⊢
      by_cases h1 : c = 35
      · rw [if_pos h1] at h ⊢
        obtain ⟨m, rfl⟩ : ∃ j, m = j + 1 := ⟨m - 1, by omega⟩
        simp only [List.take_succ_cons, blankL]
        rw [if_pos h1, ih _ m (by omega)]
      · rw [if_neg h1] at h ⊢
        by_cases h2 : wsP c
        · rw [if_pos h2] at h ⊢
          obtain ⟨m, rfl⟩ : ∃ j, m = j + 1 := ⟨m - 1, by omega⟩
          simp only [List.take_succ_cons, blankL]
          rw [if_neg h1, if_pos h2, ih _ m (by omega)]
        · rw [if_neg h2]
          cases m with
          | zero => rfl
          | succ m => simp only [List.take_succ_cons, blankL]; rw [if_neg h1, if_neg h2]
theorem rd_take0 (l : List Int) (m : Nat) (h : 1 ≤ m) : rd (l.take m) 0 = rd l 0 := by
  cases l with
  | nil => simp
  | cons a l => cases m with
    | zero => omega
    | succ m => rfl
theorem rd_take1 (l : List Int) (m : Nat) (h : 2 ≤ m) : rd (l.take m) 1 = rd l 1 := by
  cases l with
  | nil => simp
  | cons a l => cases m with
    | zero => omega
    | succ m => cases l with
      | nil => simp
      | cons b l => cases m with
        | zero => omega
        | succ m => rfl
theorem signL_take (l : List Int) (hl : l ≠ []) (m : Nat) (h1 : 1 ≤ m) (h : signL l ≤ m) : signL (l.take m) = signL l := by
  have hlen : 1 ≤ l.length := by cases l with | nil => exact absurd rfl hl | cons _ _ => simp
  unfold signL at h ⊢
  rw [rd_take0 l m h1]
  by_cases a1 : rd l 0 = 61 ∨ rd l 0 = 33 ∨ rd l 0 = 60 ∨ rd l 0 = 62
  · rw [if_pos a1] at h ⊢
    rw [if_pos a1]
    by_cases a2 : 1 < l.length ∧ rd l 1 = 61
    · rw [if_pos a2] at h ⊢
      rw [if_pos ⟨by rw [List.length_take]; omega, by rw [rd_take1 l m h]; exact a2.2⟩]
    · rw [if_neg a2]
      rw [if_neg (fun e => a2 ⟨by have := e.1; rw [List.length_take] at this; omega, by
        have := e.1; rw [List.length_take] at this
        rw [← rd_take1 l m (by omega)]; exact e.2⟩)]
  · rw [if_neg a1, if_neg a1]
theorem one_take (l : List Int) (he : (ONE l).2.2.2 = 0) (hl : l ≠ []) (m : Nat) (h : (ONE l).2.1 ≤ m) : ONE (l.take m) = ONE l := by
  have hf := (one_first l he hl).1
  have h1 : 1 ≤ m := by omega
  unfold ONE at h ⊢
  rw [rd_take0 l m h1]
  by_cases a1 : smallP (rd l 0)
  · rw [if_pos a1] at h ⊢
    rw [if_pos a1, lenL_take l m h]
  · rw [if_neg a1] at h ⊢
    rw [if_neg a1]
    by_cases a2 : digitP (rd l 0)
    · rw [if_pos a2] at h ⊢
      rw [if_pos a2]
      have hm : lenL l ≤ m := by
        have he2 := he
        unfold ONE at he2
        rw [if_neg a1, if_pos a2] at he2
        cases hn : NUM (l.take (lenL l)) with
        | none => rw [hn] at he2; exact absurd (show (6 : Int) = 0 from he2) (by decide)
        | some v => rw [hn] at h; exact h
      rw [lenL_take l m hm, List.take_take, Nat.min_eq_left hm]
    · rw [if_neg a2] at h ⊢
      rw [if_neg a2]
      by_cases a3 : 0 < signL l
      · rw [if_pos a3] at h ⊢
        rw [signL_take l hl m h1 h, if_pos a3]
      · have he2 := he
        unfold ONE at he2
        rw [if_neg a1, if_neg a2, if_neg a3] at he2
        exact absurd (show (5 : Int) = 0 from he2) (by decide)
/-- The tokens of a text that is cut off ahead of one. -/
theorem allP_cut (s : ByteArray) (f : Nat) : ∀ p, p ≤ s.size → s.size - p < f → (allP s f p).2.1 = 0 → ∀ (b : List S39) (t : S39) (m : List S39), (allP s f p).1 = b ++ t :: m → ∀ (q : Nat), t.f1 = (q : Int) → p ≤ q ∧ q ≤ s.size ∧ ∀ f', q - p < f' → allP (s.extract 0 q) f' p = (b ++ [⟨4, (q : Int), ⟨#[]⟩, 0⟩], 0, -1) := by
  induction f with
  | zero => intro p _ h; omega
  | succ f ih =>
    intro p hp h h0 b t m hb q hq
    rw [allP] at h0 hb
    by_cases hlt : p < s.size
    · rw [if_pos hlt] at h0 hb
      by_cases he : (ONE ((ch s).drop p)).2.2.2 = 0
      · have hn := one_len s p hlt he
        have hbl := blankL_le ((ch s).drop (p + (ONE ((ch s).drop p)).2.1)) false
        rw [List.length_drop, ch_len] at hbl
        rw [if_pos he] at h0 hb
        by_cases hr : (allP s f (p + (ONE ((ch s).drop p)).2.1 + blankL ((ch s).drop (p + (ONE ((ch s).drop p)).2.1)) false)).2.1 = 0
        · rw [if_pos hr] at hb
          cases b with
          | nil =>
            simp only [List.nil_append, List.cons.injEq] at hb
            have : q = p := by have e := hq; rw [← hb.1] at e; have e2 : ((p : Nat) : Int) = (q : Int) := e; omega
            subst this
            refine ⟨Nat.le_refl _, hp, fun f' hf => ?_⟩
            obtain ⟨f', rfl⟩ : ∃ m, f' = m + 1 := ⟨f' - 1, by omega⟩
            have hsz : (s.extract 0 q).size = q := by have := ext_size s 0 q (by omega); rwa [Nat.zero_add] at this
            rw [allP.eq_2, if_neg (by omega), hsz]
            rfl
          | cons t0 b =>
            simp only [List.cons_append, List.cons.injEq] at hb
            obtain ⟨hb1, hb2⟩ := hb
            obtain ⟨g1, g2, g3⟩ := ih (p + (ONE ((ch s).drop p)).2.1 + blankL ((ch s).drop (p + (ONE ((ch s).drop p)).2.1)) false) (by omega) (by omega) hr b t m hb2 q hq
            refine ⟨by omega, g2, fun f' hf => ?_⟩
            obtain ⟨f', rfl⟩ : ∃ m, f' = m + 1 := ⟨f' - 1, by omega⟩
            have hsz : (s.extract 0 q).size = q := by have := ext_size s 0 q (by omega); rwa [Nat.zero_add] at this
            have hch : ch (s.extract 0 q) = (ch s).take q := by rw [ch_extract, List.drop_zero]
            have hne : (ch s).drop p ≠ [] := fun e => by have := congrArg List.length e; rw [List.length_drop, ch_len] at this; simp at this; omega
            have hone : ONE ((ch (s.extract 0 q)).drop p) = ONE ((ch s).drop p) := by
              rw [hch, List.drop_take]
              exact one_take _ he hne (q - p) (by omega)
            have hbk : blankL ((ch (s.extract 0 q)).drop (p + (ONE ((ch s).drop p)).2.1)) false = blankL ((ch s).drop (p + (ONE ((ch s).drop p)).2.1)) false := by
              rw [hch, List.drop_take]
              exact blankL_take _ _ _ (by omega)
            have hT : TOK (s.extract 0 q) p = TOK s p := by
              unfold TOK
              rw [hone]
              have : (s.extract 0 q).extract p (p + (ONE ((ch s).drop p)).2.1) = s.extract p (p + (ONE ((ch s).drop p)).2.1) := by
                apply ch_inj
                rw [ch_extract, hch, ch_extract, List.take_take, Nat.min_eq_left (by omega)]
              rw [this]
            have g := g3 f' (by omega)
            rw [allP.eq_2, if_pos (by omega), hone, if_pos he, hbk, g, if_pos rfl, hT, hb1]
            rfl
        · rw [if_neg hr] at h0
          exact absurd h0 hr
      · rw [if_neg he] at h0
        exact absurd h0 he
    · rw [if_neg hlt] at hb
      cases b with
      | nil =>
        simp only [List.nil_append, List.cons.injEq] at hb
        have : q = s.size := by have e := hq; rw [← hb.1] at e; have e2 : ((s.size : Nat) : Int) = (q : Int) := e; omega
        subst this
        refine ⟨hp, Nat.le_refl _, fun f' hf => ?_⟩
        obtain ⟨f', rfl⟩ : ∃ m, f' = m + 1 := ⟨f' - 1, by omega⟩
        have hsz : (s.extract 0 s.size).size = s.size := by have := ext_size s 0 s.size (by omega); rwa [Nat.zero_add] at this
        rw [allP.eq_2, if_neg (by omega), hsz]
        rfl
      | cons t0 b =>
        simp only [List.cons_append, List.cons.injEq] at hb
        have := hb.2
        simp at this
/-- Where a text's tokens begin. -/
theorem ALL_from (s : ByteArray) (h0 : (ALL s).2.1 = 0) : s.size ≤ 8192 ∧ (allP s (s.size + 1) (blankL (ch s) false)).2.1 = 0 ∧ (ALL s).1 = (allP s (s.size + 1) (blankL (ch s) false)).1 ∧ blankL (ch s) false ≤ s.size := by
  have hb := blankL_le (ch s) false
  rw [ch_len] at hb
  unfold ALL at h0 ⊢
  by_cases hz : 8192 < s.size
  · rw [if_pos hz] at h0; exact absurd h0 (by decide)
  · rw [if_neg hz] at h0 ⊢
    unfold fin at h0 ⊢
    by_cases he : (allP s (s.size + 1) (blankL (ch s) false)).2.1 = 0
    · rw [if_pos he, List.nil_append]
      exact ⟨by omega, he, rfl, hb⟩
    · rw [if_neg he] at h0; exact absurd h0 he
theorem ALL_of (s : ByteArray) (hz : s.size ≤ 8192) (l : List S39) (h : allP s (s.size + 1) (blankL (ch s) false) = (l, 0, -1)) : ALL s = (l, 0, -1) := by
  unfold ALL fin
  rw [if_neg (by omega), h, if_pos rfl, List.nil_append]
theorem ALL_cut (s : ByteArray) (h0 : (ALL s).2.1 = 0) (b : List S39) (t : S39) (m : List S39) (hb : (ALL s).1 = b ++ t :: m) : ∃ q : Nat, t.f1 = (q : Int) ∧ q ≤ s.size ∧ ALL (s.extract 0 q) = (b ++ [⟨4, (q : Int), ⟨#[]⟩, 0⟩], 0, -1) := by
  obtain ⟨hz, he, h1, hb0⟩ := ALL_from s h0
  have hat := (allP_at s (s.size + 1) (blankL (ch s) false) hb0 (by omega) t (by rw [← h1, hb]; simp)).1
  obtain ⟨q, hq⟩ : ∃ q : Nat, t.f1 = (q : Int) := ⟨t.f1.toNat, by omega⟩
  rw [h1] at hb
  obtain ⟨g1, g2, g3⟩ := allP_cut s (s.size + 1) (blankL (ch s) false) hb0 (by omega) he b t m hb q hq
  refine ⟨q, hq, g2, ?_⟩
  have hsz : (s.extract 0 q).size = q := by have := ext_size s 0 q (by omega); rwa [Nat.zero_add] at this
  have hbk : blankL (ch (s.extract 0 q)) false = blankL (ch s) false := by
    rw [ch_extract, List.drop_zero]
    exact blankL_take _ _ _ g1
  exact ALL_of _ (by omega) _ (by rw [hbk, hsz]; exact g3 (q + 1) (by omega))
end Go.Proofs.Ytfahchgglapglaa.Pure
