/- Layer 9 (lex), plain: all tokens of a text, by both. -/
import Derived.Test.YtbiccohcikfgeaaMx2
import Derived.Test.YtbiccohcikfgeaaMx3
import Derived.Test.YtbiccohcikfgeaaMx4
import Derived.Test.YtbiccohcikfgeaaMx5
import Derived.Test.YtbiccohcikfgeaaMx6
import Derived.Test.YtbiccohcikfgeaaMx7
import Derived.Test.YtbiccohcikfgeaaMx8
import Derived.Test.YtbiccohcikfgeaaAid
import Derived.Test.YtbiccohcikfgeaaL09
import Derived.Test.YtbiccohcikfgeaaL09a
import Derived.Test.YtbiccohcikfgeaaL09b
namespace Go.Proofs.Ytbiccohcikfgeaa.Pure
open Go Go.RowKit Go.Proofs.Ytbiccohcikfgeaa.M Go.Proofs.Ytbiccohcikfgeaa.Aid Go.Proofs.YtbiccohcikfgeaaW.PrintWords Go.Proofs.YtbiccohcikfgeaaW.PrintLast Go.Proofs.YtbiccohcikfgeaaW.PrintMore
set_option linter.unusedVariables false
set_option linter.unusedSimpArgs false

-- NEEDS lex_length.f lex_blank.f lex_goes.f lex_small.f lex_digit.f fairleadref09_run.f fairleadref09_Skip.f fairleadref09_goes.f lex_worth.f lex_number.f lex_sign.f lex_one.f lex_All.f lex_Is.f fairleadref09_Number.f fairleadref09_One.f fairleadref09_All.f fairleadref09_Is.f fairleadlaw09_awake.f
-- IMPORT L09
-- IMPORT L09a
-- IMPORT L09b

/-- The token at a place. -/
def TOK (s : ByteArray) (p : Nat) : S31 := ⟨(ONE ((ch s).drop p)).1, (p : Int), s.extract p (p + (ONE ((ch s).drop p)).2.1), (ONE ((ch s).drop p)).2.2.1⟩
/-- The tokens from a place on, or what is wrong, and where. -/
def allP (s : ByteArray) : Nat → Nat → List S31 × Int × Int
  | 0, _ => ([], 0, 0)
  | f + 1, p => if p < s.size then (if (ONE ((ch s).drop p)).2.2.2 = 0 then (if (allP s f (p + (ONE ((ch s).drop p)).2.1 + blankL ((ch s).drop (p + (ONE ((ch s).drop p)).2.1)) false)).2.1 = 0 then (TOK s p :: (allP s f (p + (ONE ((ch s).drop p)).2.1 + blankL ((ch s).drop (p + (ONE ((ch s).drop p)).2.1)) false)).1, 0, (allP s f (p + (ONE ((ch s).drop p)).2.1 + blankL ((ch s).drop (p + (ONE ((ch s).drop p)).2.1)) false)).2.2) else ([], (allP s f (p + (ONE ((ch s).drop p)).2.1 + blankL ((ch s).drop (p + (ONE ((ch s).drop p)).2.1)) false)).2)) else ([], (ONE ((ch s).drop p)).2.2.2, (p : Int))) else ([⟨4, (s.size : Int), ⟨#[]⟩, 0⟩], 0, -1)
def fin (out : List S31) (r : List S31 × Int × Int) : List S31 × Int × Int := if r.2.1 = 0 then (out ++ r.1, 0, r.2.2) else ([], r.2)
theorem one_len (s : ByteArray) (p : Nat) (hp : p < s.size) (h : (ONE ((ch s).drop p)).2.2.2 = 0) : 1 ≤ (ONE ((ch s).drop p)).2.1 ∧ p + (ONE ((ch s).drop p)).2.1 ≤ s.size := by
  have r0 := rd_drop s p hp
  have hl := lenL_le ((ch s).drop p)
  rw [List.length_drop, ch_len] at hl
  have hpos : goesP (bt s p) → 1 ≤ lenL ((ch s).drop p) := fun hg => by
    rw [drop_ch s p hp]
    simp only [lenL]
    rw [if_pos hg]
    omega
  unfold ONE at h ⊢
  rw [r0] at h ⊢
  by_cases h1 : smallP (bt s p)
  · rw [if_pos h1]
    exact ⟨hpos (.inl h1), by show p + lenL _ ≤ _; omega⟩
  · rw [if_neg h1] at h ⊢
    by_cases h2 : digitP (bt s p)
    · rw [if_pos h2] at h ⊢
      revert h
      cases NUM (((ch s).drop p).take (lenL ((ch s).drop p))) with
      | none => intro h; exact absurd (show (6 : Int) = 0 from h) (by decide)
      | some v => intro _; exact ⟨hpos (.inr (.inl h2)), by show p + lenL _ ≤ _; omega⟩
    · rw [if_neg h2] at h ⊢
      by_cases h3 : 0 < signL ((ch s).drop p)
      · rw [if_pos h3]
        refine ⟨h3, ?_⟩
        show p + signL _ ≤ _
        unfold signL
        rw [List.length_drop, ch_len]
        split
        · split
          · omega
          · split <;> omega
        · split <;> omega
      · rw [if_neg h3] at h
        exact absurd (show (5 : Int) = 0 from h) (by decide)
theorem ext_ext (s : ByteArray) (p n : Nat) : (s.extract p s.size).extract 0 n = s.extract p (p + n) := by
  apply ch_inj
  rw [ch_head, ch_tail, ch_extract, List.drop_take, Nat.add_sub_cancel_left]
theorem ext_size (s : ByteArray) (p n : Nat) (h : p + n ≤ s.size) : (s.extract p (p + n)).size = n := by
  rw [← ch_len, ch_extract, List.length_drop, List.length_take, ch_len]
  omega
theorem all_loop (s : ByteArray) (hz : s.size ≤ 100000) (f : Nat) : ∀ (k p : Nat) (out : List S31), p ≤ s.size → s.size - p < f → f + s.size + 5 < k → out.length + (s.size - p) ≤ 200000 →
    lex_All.l0 k s out p = some (fin out (allP s f p)) := by
  induction f with
  | zero => intro k p out _ h; omega
  | succ f ih =>
    intro k p out hp hf hk ho
    obtain ⟨k, rfl⟩ : ∃ m, k = m + 1 := ⟨k - 1, by omega⟩
    simp only [lex_All.l0, allP]
    by_cases hlt : p < s.size
    · have hes : (s.extract p s.size).size = s.size - p := by rw [← ch_len, ch_tail, List.length_drop, ch_len]
      have h1 := one_is (s.extract p s.size) (by omega) k (by omega)
      rw [ch_tail, ext_ext] at h1
      rw [if_pos (by omega), if_pos (by omega), if_pos (by omega), if_pos hlt, Int.toNat_natCast, h1]
      rw [Option.bind_some]
      by_cases he : (ONE ((ch s).drop p)).2.2.2 = 0
      · have hn := one_len s p hlt he
        have hts := ext_size s p (ONE ((ch s).drop p)).2.1 hn.2
        rw [if_pos he, if_pos he]
        generalize hN : (ONE ((ch s).drop p)).2.1 = N at *
        have hbl := blankL_le ((ch s).drop (p + N)) false
        rw [List.length_drop, ch_len] at hbl
        show (if out.length < 3518437208883 then (if 0 ≤ wrap64 ((p : Int) + ((s.extract p (p + N)).size : Int)) then _ else none) else none) = _
        rw [hts, wide_ok (x := (p : Int) + N) (by omega) (by omega), if_pos (by omega), if_pos (by omega), if_pos (by omega), show ((p : Int) + N).toNat = p + N from by omega,
          blank_is _ k (by rw [← ch_len, ch_tail, List.length_drop, ch_len]; omega), ch_tail, Option.bind_some, wide_ok (by omega) (by omega), show (p : Int) + N + (blankL ((ch s).drop (p + N)) false : Int) = ((p + N + blankL ((ch s).drop (p + N)) false : Nat) : Int) from by omega]
        have := ih k (p + N + blankL ((ch s).drop (p + N)) false) (out ++ [TOK s p]) (by omega) (by omega) (by omega) (by rw [List.length_append, List.length_singleton]; omega)
        have hT : TOK s p = ⟨(ONE ((ch s).drop p)).1, (p : Int), s.extract p (p + N), (ONE ((ch s).drop p)).2.2.1⟩ := by unfold TOK; rw [hN]
        rw [hT] at this
        rw [this, ← hT]
        unfold fin
        generalize allP s f (p + N + blankL ((ch s).drop (p + N)) false) = r
        by_cases hr : r.2.1 = 0
        · rw [if_pos hr, if_pos hr, if_pos rfl, List.append_assoc, List.singleton_append]
        · rw [if_neg hr, if_neg hr, if_neg hr]
      · rw [if_neg he, if_neg he]
        unfold fin
        rw [if_neg he]
    · rw [if_neg (by omega), if_neg hlt, if_pos (by omega)]
      rfl
theorem rall_loop (s : ByteArray) (hz : s.size ≤ 100000) (f : Nat) : ∀ (k p : Nat) (out : List S31), p ≤ s.size → s.size - p < f → f + 3 * s.size + 12 < k → out.length + (s.size - p) ≤ 200000 →
    fairleadref09_All.l0 k s out p = some (fin out (allP s f p)) := by
  induction f with
  | zero => intro k p out _ h; omega
  | succ f ih =>
    intro k p out hp hf hk ho
    obtain ⟨k, rfl⟩ : ∃ m, k = m + 1 := ⟨k - 1, by omega⟩
    simp only [fairleadref09_All.l0, allP]
    by_cases hlt : p < s.size
    · rw [if_pos (by omega), if_pos hlt, rone_is s p hlt (by omega) k (by omega), Option.bind_some]
      unfold ONEr
      by_cases he : (ONE ((ch s).drop p)).2.2.2 = 0
      · have hn := one_len s p hlt he
        have hts := ext_size s p (ONE ((ch s).drop p)).2.1 hn.2
        rw [if_pos he, if_pos he]
        generalize hN : (ONE ((ch s).drop p)).2.1 = N at *
        have hbl := blankL_le ((ch s).drop (p + N)) false
        rw [List.length_drop, ch_len] at hbl
        rw [if_pos (show (0 : Int) = 0 from rfl), if_pos (by omega)]
        show (fairleadref09_Skip.f k s (wrap64 ((p : Int) + ((s.extract p (p + N)).size : Int)))).bind _ = _
        rw [hts, wide_ok (by omega) (by omega), show (p : Int) + N = ((p + N : Nat) : Int) from by omega, skip_is s (p + N) (by omega) (by omega) k (by omega), Option.bind_some]
        have := ih k (p + N + blankL ((ch s).drop (p + N)) false) (out ++ [TOK s p]) (by omega) (by omega) (by omega) (by rw [List.length_append, List.length_singleton]; omega)
        have hT : TOK s p = ⟨(ONE ((ch s).drop p)).1, (p : Int), s.extract p (p + N), (ONE ((ch s).drop p)).2.2.1⟩ := by unfold TOK; rw [hN]
        rw [hT] at this
        rw [this, ← hT]
        unfold fin
        generalize allP s f (p + N + blankL ((ch s).drop (p + N)) false) = r
        by_cases hr : r.2.1 = 0
        · rw [if_pos hr, if_pos hr, if_pos rfl, List.append_assoc, List.singleton_append]
        · rw [if_neg hr, if_neg hr, if_neg hr]
      · rw [if_neg he, if_neg he, if_neg he]
        unfold fin
        rw [if_neg he]
    · rw [if_neg (by omega), if_neg hlt, if_pos (by omega)]
      rfl
/-- All tokens of a text, or what is wrong, and where. -/
def ALL (s : ByteArray) : List S31 × Int × Int := if 8192 < s.size then ([], 4, 0) else fin [] (allP s (s.size + 1) (blankL (ch s) false))
theorem all_is (s : ByteArray) (k : Nat) (hk : 40000 ≤ k) : lex_All.f k s = some (ALL s) := by
  unfold lex_All.f ALL
  by_cases h : 8192 < s.size
  · rw [if_pos (by omega), if_pos h]
  · have hb := blankL_le (ch s) false
    rw [ch_len] at hb
    rw [if_neg (by omega), if_neg h, blank_is s k (by omega), Option.bind_some]
    exact all_loop s (by omega) (s.size + 1) k _ [] hb (by omega) (by omega) (by simp; omega)
theorem rall_is (s : ByteArray) (k : Nat) (hk : 40000 ≤ k) : fairleadref09_All.f k s = some (ALL s) := by
  unfold fairleadref09_All.f ALL
  by_cases h : 8192 < s.size
  · rw [if_pos (by omega), if_pos h]
  · have hb := blankL_le (ch s) false
    rw [ch_len] at hb
    have hs := skip_is s 0 (by omega) (by omega) k (by omega)
    rw [List.drop_zero, Nat.zero_add] at hs
    rw [if_neg (by omega), if_neg h]
    rw [Int.natCast_zero] at hs
    rw [hs, Option.bind_some]
    exact rall_loop s (by omega) (s.size + 1) k _ [] hb (by omega) (by omega) (by simp; omega)
end Go.Proofs.Ytbiccohcikfgeaa.Pure
