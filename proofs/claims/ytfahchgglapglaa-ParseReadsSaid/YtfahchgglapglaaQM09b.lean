/- Layer 9 (lex), plain, for the layers above: the program's part. -/
import Derived.Test.YtfahchgglapglaaQMx0
import Derived.Test.YtfahchgglapglaaQMx3
import Derived.Test.YtfahchgglapglaaQMx4
import Derived.Test.YtfahchgglapglaaQMx5
import Derived.Test.YtfahchgglapglaaQAid
import Derived.Test.YtfahchgglapglaaQM09
namespace Go.Proofs.Ytfahchgglapglaa.Pure
open Go Go.RowKit Go.Proofs.Ytfahchgglapglaa.M Go.Proofs.Ytfahchgglapglaa.Aid Go.Proofs.YtfahchgglapglaaW.PrintWords Go.Proofs.YtfahchgglapglaaW.PrintLast Go.Proofs.YtfahchgglapglaaW.PrintMore
set_option linter.unusedVariables false
set_option linter.unusedSimpArgs false
-- NEEDS lex_All.f lex_number.f lex_one.f lex_sign.f
-- IMPORT M09
theorem rd_ch (s : ByteArray) (n : Nat) (h : n < s.size) : rd (ch s) n = bt s n := by
  unfold rd
  rw [Int.toNat_natCast, List.getD_eq_getElem?_getD, ch_get s n h]
  rfl
def NUM (l : List Int) : Option Int := if 1 < l.length ∧ rd l 0 = 48 then (if rd l 1 = 120 ∧ 3 ≤ l.length ∧ l.length ≤ 18 then numG 16 (l.drop 2) 0 else none) else numG 10 l 0
theorem ch_tail (s : ByteArray) (n : Nat) : ch (s.extract n s.size) = (ch s).drop n := by
  rw [ch_extract, List.take_of_length_le (by rw [ch_len]; omega)]
theorem ch_head (s : ByteArray) (n : Nat) : ch (s.extract 0 n) = (ch s).take n := by
  rw [ch_extract, List.drop_zero]
theorem number_is (s : ByteArray) (hs : ∀ x ∈ ch s, x < 128) (k : Nat) (hk : s.size < k) : lex_number.f k s = some (ansN (NUM (ch s))) := by
  have h10 : lex_number.l0 k s 10 0 0 = some (ansN (numG 10 (ch s) 0)) := by
    have := number_loop s 10 (.inl rfl) hs s.size k 0 0 (by omega) hk (by decide)
    simpa using this
  unfold lex_number.f NUM
  rw [ch_len]
  by_cases h1 : (s.size : Int) > 1
  · have r0 : rd (ch s) 0 = bt s 0 := rd_ch s 0 (by omega)
    have r1 : rd (ch s) 1 = bt s 1 := rd_ch s 1 (by omega)
    rw [if_pos h1, r0, r1]
    by_cases h2 : bt s 0 = 48
    · rw [if_pos h2, if_pos (show 1 < s.size ∧ bt s 0 = 48 from ⟨by omega, h2⟩)]
      by_cases h3 : bt s 1 = 120
      · rw [if_pos h3]
        by_cases h4 : (s.size : Int) < 3
        · rw [if_pos h4, if_neg (by omega)]; rfl
        · rw [if_neg h4]
          by_cases h5 : (s.size : Int) > 18
          · rw [if_pos h5, if_neg (by omega)]; rfl
          · have ht := ch_tail s 2
            have hz : (s.extract 2 s.size).size = s.size - 2 := by rw [← ch_len, ht, List.length_drop, ch_len]
            have := number_loop (s.extract 2 s.size) 16 (.inr rfl) (fun x hx => hs x (by rw [ht] at hx; exact List.mem_of_mem_drop hx)) (s.size - 2) k 0 0 (by omega) (by omega) (by decide)
            rw [if_neg h5, if_pos (show bt s 1 = 120 ∧ 3 ≤ s.size ∧ s.size ≤ 18 from ⟨h3, by omega, by omega⟩), this, List.drop_zero, ht]
      · rw [if_neg h3, if_neg (show ¬ (bt s 1 = 120 ∧ 3 ≤ s.size ∧ s.size ≤ 18) from fun h => h3 h.1)]; rfl
    · rw [if_neg h2, if_neg (show ¬ (1 < s.size ∧ bt s 0 = 48) from fun h => h2 h.2), h10]
  · rw [if_neg h1, if_neg (by omega), h10]
theorem lenL_goes (l : List Int) : ∀ x ∈ l.take (lenL l), goesP x := by
  induction l with
  | nil => intro x hx; simp at hx
  | cons c r ih =>
    intro x hx
    simp only [lenL] at hx
    by_cases h : goesP c
    · rw [if_pos h, Nat.add_comm, List.take_succ_cons] at hx
      rcases List.mem_cons.1 hx with rfl | hx
      · exact h
      · exact ih x hx
    · rw [if_neg h] at hx
      simp at hx
/-- How many bytes the sign has that stands ahead. -/
def signL (l : List Int) : Nat := if rd l 0 = 61 ∨ rd l 0 = 33 ∨ rd l 0 = 60 ∨ rd l 0 = 62 then (if 1 < l.length ∧ rd l 1 = 61 then 2 else if rd l 0 = 61 ∨ rd l 0 = 33 then 0 else 1) else if rd l 0 = 59 ∨ rd l 0 = 44 ∨ rd l 0 = 38 then 1 else 0
theorem sign_j0 (s : ByteArray) (hs : 0 < s.size) (k : Nat) : lex_sign.j0 (k + 2) s (bt s 0) true = some (((if 1 < s.size ∧ bt s 1 = 61 then 2 else if bt s 0 = 61 ∨ bt s 0 = 33 then 0 else 1 : Nat) : Int)) := by
  have j1f : lex_sign.j1 (k + 1) s false = some (((if bt s 0 = 61 ∨ bt s 0 = 33 then 0 else 1 : Nat) : Int)) := by
    simp only [lex_sign.j1]
    rw [if_neg (by decide), if_pos (by omega)]
    by_cases h1 : bt s 0 = 61
    · rw [if_pos h1, if_pos (.inl h1)]; rfl
    · rw [if_neg h1]
      by_cases h2 : bt s 0 = 33
      · rw [if_pos h2, if_pos (.inr h2)]; rfl
      · rw [if_neg h2, if_neg (by omega)]; rfl
  simp only [lex_sign.j0]
  rw [if_pos trivial]
  by_cases h : (s.size : Int) > 1
  · rw [if_pos h, if_pos (by omega)]
    by_cases h61 : bt s 1 = 61
    · rw [beq_iff_eq.2 h61, if_pos (show 1 < s.size ∧ bt s 1 = 61 from ⟨by omega, h61⟩)]
      simp only [lex_sign.j1]
      rfl
    · rw [beq_eq_false_iff_ne.2 h61, if_neg (show ¬ (1 < s.size ∧ bt s 1 = 61) from fun e => h61 e.2), j1f]
  · rw [if_neg h, if_neg (show ¬ (1 < s.size ∧ bt s 1 = 61) by omega), j1f]
theorem sign_is (s : ByteArray) (hs : 0 < s.size) (k : Nat) (hk : 3 ≤ k) : lex_sign.f k s = some (signL (ch s) : Int) := by
  obtain ⟨k, rfl⟩ : ∃ m, k = m + 2 := ⟨k - 2, by omega⟩
  have r0 : rd (ch s) 0 = bt s 0 := rd_ch s 0 hs
  have e : (if 1 < (ch s).length ∧ rd (ch s) 1 = 61 then 2 else if bt s 0 = 61 ∨ bt s 0 = 33 then 0 else 1 : Nat) = (if 1 < s.size ∧ bt s 1 = 61 then 2 else if bt s 0 = 61 ∨ bt s 0 = 33 then 0 else 1 : Nat) := by
    rw [ch_len]
    by_cases h : 1 < s.size
    · rw [show rd (ch s) 1 = bt s 1 from rd_ch s 1 h]
    · rw [if_neg (show ¬ (1 < s.size ∧ rd (ch s) 1 = 61) from fun e => h e.1), if_neg (show ¬ (1 < s.size ∧ bt s 1 = 61) from fun e => h e.1)]
  unfold lex_sign.f signL
  rw [if_pos (by omega), r0, e]
  by_cases h1 : bt s 0 = 61
  · rw [if_pos h1, beq_iff_eq.2 h1, sign_j0 s hs, if_pos (show bt s 0 = 61 ∨ bt s 0 = 33 ∨ bt s 0 = 60 ∨ bt s 0 = 62 by omega)]
  · rw [if_neg h1]
    by_cases h2 : bt s 0 = 33
    · rw [if_pos h2, beq_iff_eq.2 h2, sign_j0 s hs, if_pos (show bt s 0 = 61 ∨ bt s 0 = 33 ∨ bt s 0 = 60 ∨ bt s 0 = 62 by omega)]
    · rw [if_neg h2]
      by_cases h3 : bt s 0 = 60
      · rw [if_pos h3, beq_iff_eq.2 h3, sign_j0 s hs, if_pos (show bt s 0 = 61 ∨ bt s 0 = 33 ∨ bt s 0 = 60 ∨ bt s 0 = 62 by omega)]
      · rw [if_neg h3]
        by_cases h4 : bt s 0 = 62
        · rw [beq_iff_eq.2 h4, sign_j0 s hs, if_pos (show bt s 0 = 61 ∨ bt s 0 = 33 ∨ bt s 0 = 60 ∨ bt s 0 = 62 by omega)]
        · rw [beq_eq_false_iff_ne.2 h4, if_neg (show ¬ (bt s 0 = 61 ∨ bt s 0 = 33 ∨ bt s 0 = 60 ∨ bt s 0 = 62) by omega)]
          simp only [lex_sign.j0]
          rw [if_neg (by decide)]
          by_cases h5 : bt s 0 = 59
          · rw [if_pos h5, if_pos (.inl h5)]; rfl
          · rw [if_neg h5]
            by_cases h6 : bt s 0 = 44
            · rw [if_pos h6, if_pos (.inr (.inl h6))]; rfl
            · rw [if_neg h6]
              by_cases h7 : bt s 0 = 38
              · rw [if_pos h7, if_pos (.inr (.inr h7))]; rfl
              · rw [if_neg h7, if_neg (by omega)]; rfl
/-- The token that stands ahead: its kind, its bytes, its worth, what is wrong. -/
def ONE (l : List Int) : Int × Nat × Int × Int :=
  if smallP (rd l 0) then (1, lenL l, 0, 0)
  else if digitP (rd l 0) then (match NUM (l.take (lenL l)) with | some v => (2, lenL l, v, 0) | none => (0, 0, 0, 6))
  else if 0 < signL l then (3, signL l, 0, 0) else (0, 0, 0, 5)
theorem extract_nil (s : ByteArray) (n : Nat) : s.extract n n = ⟨#[]⟩ := by
  apply ch_inj
  rw [ch_extract, List.drop_of_length_le (by rw [List.length_take]; omega)]
  rfl
theorem signL_le (s : ByteArray) (hs : 0 < s.size) : signL (ch s) ≤ s.size := by
  unfold signL
  rw [ch_len]
  split
  · split
    · omega
    · split <;> omega
  · split <;> omega
theorem one_is (s : ByteArray) (hs : 0 < s.size) (k : Nat) (hk : s.size + 3 < k) : lex_one.f k s = some ((ONE (ch s)).1, 0, s.extract 0 (ONE (ch s)).2.1, (ONE (ch s)).2.2.1, (ONE (ch s)).2.2.2) := by
  have r0 : rd (ch s) 0 = bt s 0 := rd_ch s 0 hs
  have hb := bt_range s 0
  have hl := lenL_le (ch s)
  rw [ch_len] at hl
  unfold lex_one.f ONE
  rw [if_pos (by omega), show wrap32 (bt s 0) = bt s 0 from by unfold wrap32; omega, small_is, digit_is, length_is s k (by omega), sign_is s hs k (by omega), r0]
  simp only [Option.bind_some, decide_eq_true_eq]
  by_cases h1 : smallP (bt s 0)
  · rw [if_pos h1, if_pos (by omega), if_pos (by omega), if_pos h1]
    rfl
  · rw [if_neg h1, if_neg h1]
    by_cases h2 : digitP (bt s 0)
    · have hnum := number_is (s.extract 0 (lenL (ch s))) (by rw [ch_head]; intro x hx; exact (goes_lt (lenL_goes _ x hx)).2) k (by rw [← ch_len, ch_head, List.length_take, ch_len]; omega)
      rw [ch_head] at hnum
      rw [if_pos h2, if_pos (by omega), if_pos (by omega), if_pos h2, Int.toNat_natCast, hnum]
      simp only [Option.bind_some]
      cases NUM ((ch s).take (lenL (ch s))) with
      | none => rw [extract_nil]; rfl
      | some v => rfl
    · have hsl := signL_le s hs
      rw [if_neg h2, if_neg h2]
      by_cases h3 : 0 < signL (ch s)
      · rw [if_pos (by omega), if_pos (by omega), if_pos (by omega), if_pos h3]
        rfl
      · rw [if_neg (by omega), if_neg h3, extract_nil]
theorem wide_ok {x : Int} (h0 : 0 ≤ x) (h1 : x ≤ 4000000) : wrap64 x = x := w64_id (by omega) (by omega)
theorem rd_drop (s : ByteArray) (p : Nat) (h : p < s.size) : rd ((ch s).drop p) 0 = bt s p := by
  rw [drop_ch s p h]
  rfl
theorem rd_drop1 (s : ByteArray) (p : Nat) (h : p + 1 < s.size) : rd ((ch s).drop p) 1 = bt s ((p + 1 : Nat) : Int) := by
  rw [drop_ch s p (by omega), drop_ch s (p + 1) h]
  rfl
/-- The document's answer for one token. -/
def ONEr (s : ByteArray) (p : Nat) : Int × Int × ByteArray × Int × Int :=
  if (ONE ((ch s).drop p)).2.2.2 = 0 then ((ONE ((ch s).drop p)).1, (p : Int), s.extract p (p + (ONE ((ch s).drop p)).2.1), (ONE ((ch s).drop p)).2.2.1, 0) else (0, 0, ⟨#[]⟩, 0, (ONE ((ch s).drop p)).2.2.2)
theorem sign_at (s : ByteArray) (p : Nat) (hp : p < s.size) (two : Bool) (hi : two = true ↔ (bt s p = 61 ∨ bt s p = 33 ∨ bt s p = 60 ∨ bt s p = 62) ∧ p + 1 < s.size ∧ bt s ((p + 1 : Nat) : Int) = 61) :
    signL ((ch s).drop p) = if two = true then 2 else if bt s p = 59 ∨ bt s p = 44 ∨ bt s p = 60 ∨ bt s p = 62 ∨ bt s p = 38 then 1 else 0 := by
  have r0 := rd_drop s p hp
  have hlen : ((ch s).drop p).length = s.size - p := by rw [List.length_drop, ch_len]
  have e1 : (1 < ((ch s).drop p).length ∧ rd ((ch s).drop p) 1 = 61) ↔ (p + 1 < s.size ∧ bt s ((p + 1 : Nat) : Int) = 61) := by
    rw [hlen]
    by_cases h : p + 1 < s.size
    · rw [rd_drop1 s p h]
      exact ⟨fun e => ⟨h, e.2⟩, fun e => ⟨by omega, e.2⟩⟩
    · exact ⟨fun e => by omega, fun e => absurd e.1 h⟩
  unfold signL
  rw [r0]
  by_cases hq : bt s p = 61 ∨ bt s p = 33 ∨ bt s p = 60 ∨ bt s p = 62
  · rw [if_pos hq]
    by_cases hr : p + 1 < s.size ∧ bt s ((p + 1 : Nat) : Int) = 61
    · rw [if_pos (e1.2 hr), if_pos (hi.2 ⟨hq, hr⟩)]
    · rw [if_neg (fun h => hr (e1.1 h)), if_neg (fun h => hr (hi.1 h).2)]
      by_cases hw : bt s p = 61 ∨ bt s p = 33
      · rw [if_pos hw, if_neg (by omega)]
      · rw [if_neg hw, if_pos (by omega)]
  · rw [if_neg hq, if_neg (fun h => hq (hi.1 h).1)]
    by_cases hw : bt s p = 59 ∨ bt s p = 44 ∨ bt s p = 38
    · rw [if_pos hw, if_pos (by omega)]
    · rw [if_neg hw, if_neg (by omega)]
/-- The sign that stands ahead, as a token. -/
def SGN (n : Nat) : Int × Nat × Int × Int := if 0 < n then (3, n, 0, 0) else (0, 0, 0, 5)
/-- The token at a place. -/
def TOK (s : ByteArray) (p : Nat) : S39 := ⟨(ONE ((ch s).drop p)).1, (p : Int), s.extract p (p + (ONE ((ch s).drop p)).2.1), (ONE ((ch s).drop p)).2.2.1⟩
/-- The tokens from a place on, or what is wrong, and where. -/
def allP (s : ByteArray) : Nat → Nat → List S39 × Int × Int
  | 0, _ => ([], 0, 0)
  | f + 1, p => if p < s.size then (if (ONE ((ch s).drop p)).2.2.2 = 0 then (if (allP s f (p + (ONE ((ch s).drop p)).2.1 + blankL ((ch s).drop (p + (ONE ((ch s).drop p)).2.1)) false)).2.1 = 0 then (TOK s p :: (allP s f (p + (ONE ((ch s).drop p)).2.1 + blankL ((ch s).drop (p + (ONE ((ch s).drop p)).2.1)) false)).1, 0, (allP s f (p + (ONE ((ch s).drop p)).2.1 + blankL ((ch s).drop (p + (ONE ((ch s).drop p)).2.1)) false)).2.2) else ([], (allP s f (p + (ONE ((ch s).drop p)).2.1 + blankL ((ch s).drop (p + (ONE ((ch s).drop p)).2.1)) false)).2)) else ([], (ONE ((ch s).drop p)).2.2.2, (p : Int))) else ([⟨4, (s.size : Int), ⟨#[]⟩, 0⟩], 0, -1)
def fin (out : List S39) (r : List S39 × Int × Int) : List S39 × Int × Int := if r.2.1 = 0 then (out ++ r.1, 0, r.2.2) else ([], r.2)
theorem one_len (s : ByteArray) (p : Nat) (hp : p < s.size) (h : (ONE ((ch s).drop p)).2.2.2 = 0) : 1 ≤ (ONE ((ch s).drop p)).2.1 ∧ p + (ONE ((ch s).drop p)).2.1 ≤ s.size := by
  have r0 := rd_drop s p hp
  have hl := lenL_le ((ch s).drop p)
  rw [List.length_drop, ch_len] at hl
  have hpos : goesP (bt s p) → 1 ≤ lenL ((ch s).drop p) := fun hg => by
    rw [drop_ch s p hp]
    simp only [lenL]
    rw [if_pos hg]
    omega
  unfold ONE at h ⊢
  rw [r0] at h ⊢
  by_cases h1 : smallP (bt s p)
  · rw [if_pos h1]
    exact ⟨hpos (.inl h1), by show p + lenL _ ≤ _; omega⟩
  · rw [if_neg h1] at h ⊢
    by_cases h2 : digitP (bt s p)
    · rw [if_pos h2] at h ⊢
      revert h
      cases NUM (((ch s).drop p).take (lenL ((ch s).drop p))) with
      | none => intro h; exact absurd (show (6 : Int) = 0 from h) (by decide)
      | some v => intro _; exact ⟨hpos (.inr (.inl h2)), by show p + lenL _ ≤ _; omega⟩
    · rw [if_neg h2] at h ⊢
      by_cases h3 : 0 < signL ((ch s).drop p)
      · rw [if_pos h3]
        refine ⟨h3, ?_⟩
        show p + signL _ ≤ _
        unfold signL
        rw [List.length_drop, ch_len]
        split
        · split
          · omega
          · split <;> omega
        · split <;> omega
      · rw [if_neg h3] at h
        exact absurd (show (5 : Int) = 0 from h) (by decide)
theorem ext_ext (s : ByteArray) (p n : Nat) : (s.extract p s.size).extract 0 n = s.extract p (p + n) := by
  apply ch_inj
  rw [ch_head, ch_tail, ch_extract, List.drop_take, Nat.add_sub_cancel_left]
theorem ext_size (s : ByteArray) (p n : Nat) (h : p + n ≤ s.size) : (s.extract p (p + n)).size = n := by
  rw [← ch_len, ch_extract, List.length_drop, List.length_take, ch_len]
  omega
theorem all_loop (s : ByteArray) (hz : s.size ≤ 100000) (f : Nat) : ∀ (k p : Nat) (out : List S39), p ≤ s.size → s.size - p < f → f + s.size + 5 < k → out.length + (s.size - p) ≤ 200000 →
    lex_All.l0 k s out p = some (fin out (allP s f p)) := by
  induction f with
  | zero => intro k p out _ h; omega
  | succ f ih =>
    intro k p out hp hf hk ho
    obtain ⟨k, rfl⟩ : ∃ m, k = m + 1 := ⟨k - 1, by omega⟩
    simp only [lex_All.l0, allP]
    by_cases hlt : p < s.size
    · have hes : (s.extract p s.size).size = s.size - p := by rw [← ch_len, ch_tail, List.length_drop, ch_len]
      have h1 := one_is (s.extract p s.size) (by omega) k (by omega)
      rw [ch_tail, ext_ext] at h1
      rw [if_pos (by omega), if_pos (by omega), if_pos (by omega), if_pos hlt, Int.toNat_natCast, h1]
      rw [Option.bind_some]
      by_cases he : (ONE ((ch s).drop p)).2.2.2 = 0
      · have hn := one_len s p hlt he
        have hts := ext_size s p (ONE ((ch s).drop p)).2.1 hn.2
        rw [if_pos he, if_pos he]
        generalize hN : (ONE ((ch s).drop p)).2.1 = N at *
        have hbl := blankL_le ((ch s).drop (p + N)) false
        rw [List.length_drop, ch_len] at hbl
        show (if out.length < 3518437208883 then (if 0 ≤ wrap64 ((p : Int) + ((s.extract p (p + N)).size : Int)) then _ else none) else none) = _
        rw [hts, wide_ok (x := (p : Int) + N) (by omega) (by omega), if_pos (by omega), if_pos (by omega), if_pos (by omega), show ((p : Int) + N).toNat = p + N from by omega,
          blank_is _ k (by rw [← ch_len, ch_tail, List.length_drop, ch_len]; omega), ch_tail, Option.bind_some, wide_ok (by omega) (by omega), show (p : Int) + N + (blankL ((ch s).drop (p + N)) false : Int) = ((p + N + blankL ((ch s).drop (p + N)) false : Nat) : Int) from by omega]
        have := ih k (p + N + blankL ((ch s).drop (p + N)) false) (out ++ [TOK s p]) (by omega) (by omega) (by omega) (by rw [List.length_append, List.length_singleton]; omega)
        have hT : TOK s p = ⟨(ONE ((ch s).drop p)).1, (p : Int), s.extract p (p + N), (ONE ((ch s).drop p)).2.2.1⟩ := by unfold TOK; rw [hN]
        rw [hT] at this
        rw [this, ← hT]
        unfold fin
        generalize allP s f (p + N + blankL ((ch s).drop (p + N)) false) = r
        by_cases hr : r.2.1 = 0
        · rw [if_pos hr, if_pos hr, if_pos rfl, List.append_assoc, List.singleton_append]
        · rw [if_neg hr, if_neg hr, if_neg hr]
      · rw [if_neg he, if_neg he]
        unfold fin
        rw [if_neg he]
    · rw [if_neg (by omega), if_neg hlt, if_pos (by omega)]
      rfl
/-- All tokens of a text, or what is wrong, and where. -/
def ALL (s : ByteArray) : List S39 × Int × Int := if 8192 < s.size then ([], 4, 0) else fin [] (allP s (s.size + 1) (blankL (ch s) false))
theorem all_is (s : ByteArray) (k : Nat) (hk : 40000 ≤ k) : lex_All.f k s = some (ALL s) := by
  unfold lex_All.f ALL
  by_cases h : 8192 < s.size
  · rw [if_pos (by omega), if_pos h]
  · have hb := blankL_le (ch s) false
    rw [ch_len] at hb
    rw [if_neg (by omega), if_neg h, blank_is s k (by omega), Option.bind_some]
    exact all_loop s (by omega) (s.size + 1) k _ [] hb (by omega) (by omega) (by simp; omega)
end Go.Proofs.Ytfahchgglapglaa.Pure
