/- Layer 9 (lex), plain: one token, all tokens. -/
import Derived.Test.YtbiccohcikfgeaaMx2
import Derived.Test.YtbiccohcikfgeaaMx3
import Derived.Test.YtbiccohcikfgeaaMx4
import Derived.Test.YtbiccohcikfgeaaMx5
import Derived.Test.YtbiccohcikfgeaaMx6
import Derived.Test.YtbiccohcikfgeaaMx7
import Derived.Test.YtbiccohcikfgeaaMx8
import Derived.Test.YtbiccohcikfgeaaAid
import Derived.Test.YtbiccohcikfgeaaL09
import Derived.Test.YtbiccohcikfgeaaL09a
namespace Go.Proofs.Ytbiccohcikfgeaa.Pure
open Go Go.RowKit Go.Proofs.Ytbiccohcikfgeaa.M Go.Proofs.Ytbiccohcikfgeaa.Aid Go.Proofs.YtbiccohcikfgeaaW.PrintWords Go.Proofs.YtbiccohcikfgeaaW.PrintLast Go.Proofs.YtbiccohcikfgeaaW.PrintMore
set_option linter.unusedVariables false
set_option linter.unusedSimpArgs false

-- NEEDS lex_length.f lex_blank.f lex_goes.f lex_small.f lex_digit.f fairleadref09_run.f fairleadref09_Skip.f fairleadref09_goes.f lex_worth.f lex_number.f lex_sign.f lex_one.f lex_All.f lex_Is.f fairleadref09_Number.f fairleadref09_One.f fairleadref09_All.f fairleadref09_Is.f fairleadlaw09_awake.f
-- IMPORT L09
-- IMPORT L09a

theorem rd_ch (s : ByteArray) (n : Nat) (h : n < s.size) : rd (ch s) n = bt s n := by
  unfold rd
  rw [Int.toNat_natCast, List.getD_eq_getElem?_getD, ch_get s n h]
  rfl
def NUM (l : List Int) : Option Int := if 1 < l.length ∧ rd l 0 = 48 then (if rd l 1 = 120 ∧ 3 ≤ l.length ∧ l.length ≤ 18 then numG 16 (l.drop 2) 0 else none) else numG 10 l 0
theorem ch_tail (s : ByteArray) (n : Nat) : ch (s.extract n s.size) = (ch s).drop n := by
  rw [ch_extract, List.take_of_length_le (by rw [ch_len]; omega)]
theorem ch_head (s : ByteArray) (n : Nat) : ch (s.extract 0 n) = (ch s).take n := by
  rw [ch_extract, List.drop_zero]
theorem number_is (s : ByteArray) (hs : ∀ x ∈ ch s, x < 128) (k : Nat) (hk : s.size < k) : lex_number.f k s = some (ansN (NUM (ch s))) := by
  have h10 : lex_number.l0 k s 10 0 0 = some (ansN (numG 10 (ch s) 0)) := by
    have := number_loop s 10 (.inl rfl) hs s.size k 0 0 (by omega) hk (by decide)
    simpa using this
  unfold lex_number.f NUM
  rw [ch_len]
  by_cases h1 : (s.size : Int) > 1
  · have r0 : rd (ch s) 0 = bt s 0 := rd_ch s 0 (by omega)
    have r1 : rd (ch s) 1 = bt s 1 := rd_ch s 1 (by omega)
    rw [if_pos h1, r0, r1]
    by_cases h2 : bt s 0 = 48
    · rw [if_pos h2, if_pos (show 1 < s.size ∧ bt s 0 = 48 from ⟨by omega, h2⟩)]
      by_cases h3 : bt s 1 = 120
      · rw [if_pos h3]
        by_cases h4 : (s.size : Int) < 3
        · rw [if_pos h4, if_neg (by omega)]; rfl
        · rw [if_neg h4]
          by_cases h5 : (s.size : Int) > 18
          · rw [if_pos h5, if_neg (by omega)]; rfl
          · have ht := ch_tail s 2
            have hz : (s.extract 2 s.size).size = s.size - 2 := by rw [← ch_len, ht, List.length_drop, ch_len]
            have := number_loop (s.extract 2 s.size) 16 (.inr rfl) (fun x hx => hs x (by rw [ht] at hx; exact List.mem_of_mem_drop hx)) (s.size - 2) k 0 0 (by omega) (by omega) (by decide)
            rw [if_neg h5, if_pos (show bt s 1 = 120 ∧ 3 ≤ s.size ∧ s.size ≤ 18 from ⟨h3, by omega, by omega⟩), this, List.drop_zero, ht]
      · rw [if_neg h3, if_neg (show ¬ (bt s 1 = 120 ∧ 3 ≤ s.size ∧ s.size ≤ 18) from fun h => h3 h.1)]; rfl
    · rw [if_neg h2, if_neg (show ¬ (1 < s.size ∧ bt s 0 = 48) from fun h => h2 h.2), h10]
  · rw [if_neg h1, if_neg (by omega), h10]
theorem rnumber_is (s : ByteArray) (hs0 : 0 < s.size) (hz : s.size ≤ 1000000) (k : Nat) (hk : 3 * s.size + 5 < k) : fairleadref09_Number.f k s = some (ansN (NUM (ch s))) := by
  obtain ⟨k, rfl⟩ : ∃ m, k = m + 2 := ⟨k - 2, by omega⟩
  have h10 : fairleadref09_Number.j1 (k + 1) 10 s = some (ansN (numG 10 (ch s) 0)) := by
    have := rnumber_loop s 10 (.inl rfl) hz hs0 s.size k 0 0 (by omega) (by omega) (by decide)
    simp only [fairleadref09_Number.j1]
    simpa using this
  unfold fairleadref09_Number.f NUM
  rw [ch_len]
  by_cases h1 : (s.size : Int) > 1
  · have r0 : rd (ch s) 0 = bt s 0 := rd_ch s 0 (by omega)
    have r1 : rd (ch s) 1 = bt s 1 := rd_ch s 1 (by omega)
    rw [if_pos h1, if_pos (by omega), r0, r1]
    simp only [fairleadref09_Number.j0]
    by_cases h2 : bt s 0 = 48
    · rw [if_pos (beq_iff_eq.2 h2), if_pos (by omega), if_pos (show 1 < s.size ∧ bt s 0 = 48 from ⟨by omega, h2⟩)]
      by_cases h3 : bt s 1 = 120
      · rw [if_pos h3]
        by_cases h4 : (s.size : Int) < 3
        · rw [if_pos h4, if_neg (by omega)]; rfl
        · rw [if_neg h4]
          by_cases h5 : (s.size : Int) > 18
          · rw [if_pos h5, if_neg (by omega)]; rfl
          · have ht := ch_tail s 2
            have hz2 : (s.extract 2 s.size).size = s.size - 2 := by rw [← ch_len, ht, List.length_drop, ch_len]
            have := rnumber_loop (s.extract 2 s.size) 16 (.inr rfl) (by omega) (by omega) (s.size - 2) k 0 0 (by omega) (by omega) (by decide)
            rw [if_neg h5, if_pos (by omega), if_pos (show bt s 1 = 120 ∧ 3 ≤ s.size ∧ s.size ≤ 18 from ⟨h3, by omega, by omega⟩)]
            simp only [fairleadref09_Number.j1]
            rw [Int.natCast_zero] at this
            rw [this, List.drop_zero, ht]
      · rw [if_neg h3, if_neg (show ¬ (bt s 1 = 120 ∧ 3 ≤ s.size ∧ s.size ≤ 18) from fun h => h3 h.1)]; rfl
    · rw [if_neg (by simpa using h2), if_neg (show ¬ (1 < s.size ∧ bt s 0 = 48) from fun h => h2 h.2), h10]
  · rw [if_neg h1, if_neg (by omega)]
    simp only [fairleadref09_Number.j0]
    rw [if_neg (by decide), h10]
theorem lenL_goes (l : List Int) : ∀ x ∈ l.take (lenL l), goesP x := by
  induction l with
  | nil => intro x hx; simp at hx
  | cons c r ih =>
    intro x hx
    simp only [lenL] at hx
    by_cases h : goesP c
    · rw [if_pos h, Nat.add_comm, List.take_succ_cons] at hx
      rcases List.mem_cons.1 hx with rfl | hx
      · exact h
      · exact ih x hx
    · rw [if_neg h] at hx
      simp at hx
/-- How many bytes the sign has that stands ahead. -/
def signL (l : List Int) : Nat := if rd l 0 = 61 ∨ rd l 0 = 33 ∨ rd l 0 = 60 ∨ rd l 0 = 62 then (if 1 < l.length ∧ rd l 1 = 61 then 2 else if rd l 0 = 61 ∨ rd l 0 = 33 then 0 else 1) else if rd l 0 = 59 ∨ rd l 0 = 44 ∨ rd l 0 = 38 then 1 else 0
theorem sign_j0 (s : ByteArray) (hs : 0 < s.size) (k : Nat) : lex_sign.j0 (k + 2) s (bt s 0) true = some (((if 1 < s.size ∧ bt s 1 = 61 then 2 else if bt s 0 = 61 ∨ bt s 0 = 33 then 0 else 1 : Nat) : Int)) := by
  have j1f : lex_sign.j1 (k + 1) s false = some (((if bt s 0 = 61 ∨ bt s 0 = 33 then 0 else 1 : Nat) : Int)) := by
    simp only [lex_sign.j1]
    rw [if_neg (by decide), if_pos (by omega)]
    by_cases h1 : bt s 0 = 61
    · rw [if_pos h1, if_pos (.inl h1)]; rfl
    · rw [if_neg h1]
      by_cases h2 : bt s 0 = 33
      · rw [if_pos h2, if_pos (.inr h2)]; rfl
      · rw [if_neg h2, if_neg (by omega)]; rfl
  simp only [lex_sign.j0]
  rw [if_pos trivial]
  by_cases h : (s.size : Int) > 1
  · rw [if_pos h, if_pos (by omega)]
    by_cases h61 : bt s 1 = 61
    · rw [beq_iff_eq.2 h61, if_pos (show 1 < s.size ∧ bt s 1 = 61 from ⟨by omega, h61⟩)]
      simp only [lex_sign.j1]
      rfl
    · rw [beq_eq_false_iff_ne.2 h61, if_neg (show ¬ (1 < s.size ∧ bt s 1 = 61) from fun e => h61 e.2), j1f]
  · rw [if_neg h, if_neg (show ¬ (1 < s.size ∧ bt s 1 = 61) by omega), j1f]
theorem sign_is (s : ByteArray) (hs : 0 < s.size) (k : Nat) (hk : 3 ≤ k) : lex_sign.f k s = some (signL (ch s) : Int) := by
  obtain ⟨k, rfl⟩ : ∃ m, k = m + 2 := ⟨k - 2, by omega⟩
  have r0 : rd (ch s) 0 = bt s 0 := rd_ch s 0 hs
  have e : (if 1 < (ch s).length ∧ rd (ch s) 1 = 61 then 2 else if bt s 0 = 61 ∨ bt s 0 = 33 then 0 else 1 : Nat) = (if 1 < s.size ∧ bt s 1 = 61 then 2 else if bt s 0 = 61 ∨ bt s 0 = 33 then 0 else 1 : Nat) := by
    rw [ch_len]
    by_cases h : 1 < s.size
    · rw [show rd (ch s) 1 = bt s 1 from rd_ch s 1 h]
    · rw [if_neg (show ¬ (1 < s.size ∧ rd (ch s) 1 = 61) from fun e => h e.1), if_neg (show ¬ (1 < s.size ∧ bt s 1 = 61) from fun e => h e.1)]
  unfold lex_sign.f signL
  rw [if_pos (by omega), r0, e]
  by_cases h1 : bt s 0 = 61
  · rw [if_pos h1, beq_iff_eq.2 h1, sign_j0 s hs, if_pos (show bt s 0 = 61 ∨ bt s 0 = 33 ∨ bt s 0 = 60 ∨ bt s 0 = 62 by omega)]
  · rw [if_neg h1]
    by_cases h2 : bt s 0 = 33
    · rw [if_pos h2, beq_iff_eq.2 h2, sign_j0 s hs, if_pos (show bt s 0 = 61 ∨ bt s 0 = 33 ∨ bt s 0 = 60 ∨ bt s 0 = 62 by omega)]
    · rw [if_neg h2]
      by_cases h3 : bt s 0 = 60
      · rw [if_pos h3, beq_iff_eq.2 h3, sign_j0 s hs, if_pos (show bt s 0 = 61 ∨ bt s 0 = 33 ∨ bt s 0 = 60 ∨ bt s 0 = 62 by omega)]
      · rw [if_neg h3]
        by_cases h4 : bt s 0 = 62
        · rw [beq_iff_eq.2 h4, sign_j0 s hs, if_pos (show bt s 0 = 61 ∨ bt s 0 = 33 ∨ bt s 0 = 60 ∨ bt s 0 = 62 by omega)]
        · rw [beq_eq_false_iff_ne.2 h4, if_neg (show ¬ (bt s 0 = 61 ∨ bt s 0 = 33 ∨ bt s 0 = 60 ∨ bt s 0 = 62) by omega)]
          simp only [lex_sign.j0]
          rw [if_neg (by decide)]
          by_cases h5 : bt s 0 = 59
          · rw [if_pos h5, if_pos (.inl h5)]; rfl
          · rw [if_neg h5]
            by_cases h6 : bt s 0 = 44
            · rw [if_pos h6, if_pos (.inr (.inl h6))]; rfl
            · rw [if_neg h6]
              by_cases h7 : bt s 0 = 38
              · rw [if_pos h7, if_pos (.inr (.inr h7))]; rfl
              · rw [if_neg h7, if_neg (by omega)]; rfl
/-- The token that stands ahead: its kind, its bytes, its worth, what is wrong. -/
def ONE (l : List Int) : Int × Nat × Int × Int :=
  if smallP (rd l 0) then (1, lenL l, 0, 0)
  else if digitP (rd l 0) then (match NUM (l.take (lenL l)) with | some v => (2, lenL l, v, 0) | none => (0, 0, 0, 6))
  else if 0 < signL l then (3, signL l, 0, 0) else (0, 0, 0, 5)
theorem extract_nil (s : ByteArray) (n : Nat) : s.extract n n = ⟨#[]⟩ := by
  apply ch_inj
  rw [ch_extract, List.drop_of_length_le (by rw [List.length_take]; omega)]
  rfl
theorem signL_le (s : ByteArray) (hs : 0 < s.size) : signL (ch s) ≤ s.size := by
  unfold signL
  rw [ch_len]
  split
  · split
    · omega
    · split <;> omega
  · split <;> omega
theorem one_is (s : ByteArray) (hs : 0 < s.size) (k : Nat) (hk : s.size + 3 < k) : lex_one.f k s = some ((ONE (ch s)).1, 0, s.extract 0 (ONE (ch s)).2.1, (ONE (ch s)).2.2.1, (ONE (ch s)).2.2.2) := by
  have r0 : rd (ch s) 0 = bt s 0 := rd_ch s 0 hs
  have hb := bt_range s 0
  have hl := lenL_le (ch s)
  rw [ch_len] at hl
  unfold lex_one.f ONE
  rw [if_pos (by omega), show wrap32 (bt s 0) = bt s 0 from by unfold wrap32; omega, small_is, digit_is, length_is s k (by omega), sign_is s hs k (by omega), r0]
  simp only [Option.bind_some, decide_eq_true_eq]
  by_cases h1 : smallP (bt s 0)
  · rw [if_pos h1, if_pos (by omega), if_pos (by omega), if_pos h1]
    rfl
  · rw [if_neg h1, if_neg h1]
    by_cases h2 : digitP (bt s 0)
    · have hnum := number_is (s.extract 0 (lenL (ch s))) (by rw [ch_head]; intro x hx; exact (goes_lt (lenL_goes _ x hx)).2) k (by rw [← ch_len, ch_head, List.length_take, ch_len]; omega)
      rw [ch_head] at hnum
      rw [if_pos h2, if_pos (by omega), if_pos (by omega), if_pos h2, Int.toNat_natCast, hnum]
      simp only [Option.bind_some]
      cases NUM ((ch s).take (lenL (ch s))) with
      | none => rw [extract_nil]; rfl
      | some v => rfl
    · have hsl := signL_le s hs
      rw [if_neg h2, if_neg h2]
      by_cases h3 : 0 < signL (ch s)
      · rw [if_pos (by omega), if_pos (by omega), if_pos (by omega), if_pos h3]
        rfl
      · rw [if_neg (by omega), if_neg h3, extract_nil]
theorem wide_ok {x : Int} (h0 : 0 ≤ x) (h1 : x ≤ 4000000) : wrap64 x = x := w64_id (by omega) (by omega)
theorem rd_drop (s : ByteArray) (p : Nat) (h : p < s.size) : rd ((ch s).drop p) 0 = bt s p := by
  rw [drop_ch s p h]
  rfl
theorem rd_drop1 (s : ByteArray) (p : Nat) (h : p + 1 < s.size) : rd ((ch s).drop p) 1 = bt s ((p + 1 : Nat) : Int) := by
  rw [drop_ch s p (by omega), drop_ch s (p + 1) h]
  rfl
/-- The document's answer for one token. -/
def ONEr (s : ByteArray) (p : Nat) : Int × Int × ByteArray × Int × Int :=
  if (ONE ((ch s).drop p)).2.2.2 = 0 then ((ONE ((ch s).drop p)).1, (p : Int), s.extract p (p + (ONE ((ch s).drop p)).2.1), (ONE ((ch s).drop p)).2.2.1, 0) else (0, 0, ⟨#[]⟩, 0, (ONE ((ch s).drop p)).2.2.2)
theorem rone_j0 (s : ByteArray) (p : Nat) (hp : p < s.size) (hz : s.size ≤ 1000000) (two : Bool) (h2 : two = true → p + 1 < s.size) (k : Nat) :
    fairleadref09_One.j0 (k + 1) s p (bt s p) two 3 p ⟨#[]⟩ 0 = some (if two = true then (3, (p : Int), s.extract p (p + 2), 0, 0) else if bt s p = 59 ∨ bt s p = 44 ∨ bt s p = 60 ∨ bt s p = 62 ∨ bt s p = 38 then (3, (p : Int), s.extract p (p + 1), 0, 0) else (0, 0, ⟨#[]⟩, 0, 5)) := by
  have e1 : ((p : Int) + 1).toNat = p + 1 := by omega
  have e2 : ((p : Int) + 2).toNat = p + 2 := by omega
  simp only [fairleadref09_One.j0]
  rw [wide_ok (x := (p : Int) + 2) (by omega) (by omega), wide_ok (x := (p : Int) + 1) (by omega) (by omega), e1, e2, Int.toNat_natCast]
  cases two with
  | true =>
    have := h2 rfl
    rw [if_pos rfl, if_pos (by omega), if_pos (by omega), if_pos (by omega), if_pos rfl]
  | false =>
    rw [if_neg (show ¬ false = true by decide), if_neg (show ¬ false = true by decide)]
    by_cases c1 : bt s p = 59
    · rw [if_pos c1, if_pos (by omega), if_pos (by omega), if_pos (by omega), if_pos (.inl c1)]
    · rw [if_neg c1]
      by_cases c2 : bt s p = 44
      · rw [if_pos c2, if_pos (by omega), if_pos (by omega), if_pos (by omega), if_pos (.inr (.inl c2))]
      · rw [if_neg c2]
        by_cases c3 : bt s p = 60
        · rw [if_pos c3, if_pos (by omega), if_pos (by omega), if_pos (by omega), if_pos (.inr (.inr (.inl c3)))]
        · rw [if_neg c3]
          by_cases c4 : bt s p = 62
          · rw [if_pos c4, if_pos (by omega), if_pos (by omega), if_pos (by omega), if_pos (.inr (.inr (.inr (.inl c4))))]
          · rw [if_neg c4]
            by_cases c5 : bt s p = 38
            · rw [if_pos c5, if_pos (by omega), if_pos (by omega), if_pos (by omega), if_pos (.inr (.inr (.inr (.inr c5))))]
            · rw [if_neg c5, if_neg (by omega)]
theorem sign_at (s : ByteArray) (p : Nat) (hp : p < s.size) (two : Bool) (hi : two = true ↔ (bt s p = 61 ∨ bt s p = 33 ∨ bt s p = 60 ∨ bt s p = 62) ∧ p + 1 < s.size ∧ bt s ((p + 1 : Nat) : Int) = 61) :
    signL ((ch s).drop p) = if two = true then 2 else if bt s p = 59 ∨ bt s p = 44 ∨ bt s p = 60 ∨ bt s p = 62 ∨ bt s p = 38 then 1 else 0 := by
  have r0 := rd_drop s p hp
  have hlen : ((ch s).drop p).length = s.size - p := by rw [List.length_drop, ch_len]
  have e1 : (1 < ((ch s).drop p).length ∧ rd ((ch s).drop p) 1 = 61) ↔ (p + 1 < s.size ∧ bt s ((p + 1 : Nat) : Int) = 61) := by
    rw [hlen]
    by_cases h : p + 1 < s.size
    · rw [rd_drop1 s p h]
      exact ⟨fun e => ⟨h, e.2⟩, fun e => ⟨by omega, e.2⟩⟩
    · exact ⟨fun e => by omega, fun e => absurd e.1 h⟩
  unfold signL
  rw [r0]
  by_cases hq : bt s p = 61 ∨ bt s p = 33 ∨ bt s p = 60 ∨ bt s p = 62
  · rw [if_pos hq]
    by_cases hr : p + 1 < s.size ∧ bt s ((p + 1 : Nat) : Int) = 61
    · rw [if_pos (e1.2 hr), if_pos (hi.2 ⟨hq, hr⟩)]
    · rw [if_neg (fun h => hr (e1.1 h)), if_neg (fun h => hr (hi.1 h).2)]
      by_cases hw : bt s p = 61 ∨ bt s p = 33
      · rw [if_pos hw, if_neg (by omega)]
      · rw [if_neg hw, if_pos (by omega)]
  · rw [if_neg hq, if_neg (fun h => hq (hi.1 h).1)]
    by_cases hw : bt s p = 59 ∨ bt s p = 44 ∨ bt s p = 38
    · rw [if_pos hw, if_pos (by omega)]
    · rw [if_neg hw, if_neg (by omega)]
/-- The sign that stands ahead, as a token. -/
def SGN (n : Nat) : Int × Nat × Int × Int := if 0 < n then (3, n, 0, 0) else (0, 0, 0, 5)
theorem sgn_tok (s : ByteArray) (p : Nat) (hp : p < s.size) (hz : s.size ≤ 1000000) (two : Bool) (ht : two = true → p + 1 < s.size) (hi : two = true ↔ (bt s p = 61 ∨ bt s p = 33 ∨ bt s p = 60 ∨ bt s p = 62) ∧ p + 1 < s.size ∧ bt s ((p + 1 : Nat) : Int) = 61) (k : Nat) :
    fairleadref09_One.j0 (k + 1) s p (bt s p) two 3 p ⟨#[]⟩ 0 = some (if (SGN (signL ((ch s).drop p))).2.2.2 = 0 then ((SGN (signL ((ch s).drop p))).1, (p : Int), s.extract p (p + (SGN (signL ((ch s).drop p))).2.1), (SGN (signL ((ch s).drop p))).2.2.1, 0) else (0, 0, ⟨#[]⟩, 0, (SGN (signL ((ch s).drop p))).2.2.2)) := by
  rw [rone_j0 s p hp hz two ht, sign_at s p hp two hi]
  have s2 : SGN 2 = (3, 2, 0, 0) := rfl
  have s1 : SGN 1 = (3, 1, 0, 0) := rfl
  have s0 : SGN 0 = (0, 0, 0, 5) := rfl
  cases two with
  | true => simp only [if_true, s2]
  | false =>
    rw [if_neg (show ¬ false = true by decide), if_neg (show ¬ false = true by decide)]
    by_cases hw : bt s p = 59 ∨ bt s p = 44 ∨ bt s p = 60 ∨ bt s p = 62 ∨ bt s p = 38
    · rw [if_pos hw, if_pos hw, s1]
      simp only [if_true]
    · rw [if_neg hw, if_neg hw, s0]
      rw [if_neg (by decide)]
theorem rone_is (s : ByteArray) (p : Nat) (hp : p < s.size) (hz : s.size ≤ 1000000) (k : Nat) (hk : 3 * s.size + 10 < k) : fairleadref09_One.f k s p = some (ONEr s p) := by
  obtain ⟨k, rfl⟩ : ∃ m, k = m + 1 := ⟨k - 1, by omega⟩
  generalize hR : ONEr s p = R
  have r0 := rd_drop s p hp
  have hb := bt_range s p
  have hlen : ((ch s).drop p).length = s.size - p := by rw [List.length_drop, ch_len]
  have hl := lenL_le ((ch s).drop p)
  have hcut : ∀ n : Nat, ((p : Int) + n).toNat = p + n := fun n => by omega
  have hext : ch (s.extract p (p + lenL ((ch s).drop p))) = ((ch s).drop p).take (lenL ((ch s).drop p)) := by
    rw [ch_extract, List.drop_take, Nat.add_sub_cancel_left]
  unfold fairleadref09_One.f
  rw [if_pos (by omega), if_pos (by omega), show fairleadref09_small.f (bt s p) = some (decide (smallP (bt s p))) from small_is _, show fairleadref09_digit.f (bt s p) = some (decide (digitP (bt s p))) from digit_is _, run_is s p (by omega) hz (k + 1) (by omega)]
  rw [Option.bind_some]
  by_cases h1 : smallP (bt s p)
  · have hO : ONE ((ch s).drop p) = (1, lenL ((ch s).drop p), 0, 0) := by unfold ONE; rw [r0, if_pos h1]
    rw [if_pos (decide_eq_true h1), Option.bind_some, wide_ok (by omega) (by omega), if_pos (by omega), if_pos (by omega), hcut, Int.toNat_natCast, ← hR]
    unfold ONEr
    rw [hO]
    rfl
  · rw [if_neg (fun e => h1 (of_decide_eq_true e)), Option.bind_some]
    by_cases h2 : digitP (bt s p)
    · have hpos : 0 < lenL ((ch s).drop p) := by
        rw [drop_ch s p hp]
        simp only [lenL]
        rw [if_pos (.inr (.inl h2))]
        omega
      have hsz : (s.extract p (p + lenL ((ch s).drop p))).size = lenL ((ch s).drop p) := by rw [← ch_len, hext, List.length_take]; omega
      have hnum := rnumber_is (s.extract p (p + lenL ((ch s).drop p))) (by omega) (by omega) (k + 1) (by omega)
      rw [hext] at hnum
      rw [if_pos (decide_eq_true h2), Option.bind_some, wide_ok (by omega) (by omega), if_pos (by omega), if_pos (by omega), hcut, Int.toNat_natCast, hnum, Option.bind_some, ← hR]
      have hO : ONE ((ch s).drop p) = (match NUM (((ch s).drop p).take (lenL ((ch s).drop p))) with | some v => (2, lenL ((ch s).drop p), v, 0) | none => (0, 0, 0, 6)) := by unfold ONE; rw [r0, if_neg h1, if_pos h2]
      unfold ONEr
      rw [hO]
      cases NUM (((ch s).drop p).take (lenL ((ch s).drop p))) with
      | none => rfl
      | some v => rfl
    · rw [if_neg (fun e => h2 (of_decide_eq_true e)), wide_ok (x := (p : Int) + 1) (by omega) (by omega), show (p : Int) + 1 = ((p + 1 : Nat) : Int) from by omega]
      have hO : ONE ((ch s).drop p) = SGN (signL ((ch s).drop p)) := by unfold ONE SGN; rw [r0, if_neg h1, if_neg h2]
      have hsz : ∀ two : Bool, (two = true → p + 1 < s.size) → (two = true ↔ (bt s p = 61 ∨ bt s p = 33 ∨ bt s p = 60 ∨ bt s p = 62) ∧ p + 1 < s.size ∧ bt s ((p + 1 : Nat) : Int) = 61) → fairleadref09_One.j0 (k + 1) s p (bt s p) two 3 p ⟨#[]⟩ 0 = some R := fun two ht hi => by
        have := sgn_tok s p hp hz two ht hi k
        rw [← hO] at this
        rw [← hR]
        exact this
      by_cases h : p + 1 < s.size
      · rw [if_pos (by omega), if_pos (by omega)]
        by_cases h61 : bt s ((p + 1 : Nat) : Int) = 61
        · rw [if_pos h61]
          by_cases c1 : bt s p = 61
          · rw [if_pos c1, hsz true (fun _ => h) ⟨fun _ => ⟨.inl c1, h, h61⟩, fun _ => rfl⟩]
          · rw [if_neg c1]
            by_cases c2 : bt s p = 33
            · rw [if_pos c2, hsz true (fun _ => h) ⟨fun _ => ⟨.inr (.inl c2), h, h61⟩, fun _ => rfl⟩]
            · rw [if_neg c2]
              by_cases c3 : bt s p = 60
              · rw [if_pos c3, hsz true (fun _ => h) ⟨fun _ => ⟨.inr (.inr (.inl c3)), h, h61⟩, fun _ => rfl⟩]
              · rw [if_neg c3, hsz _ (fun _ => h) ⟨fun e => ⟨.inr (.inr (.inr (beq_iff_eq.1 e))), h, h61⟩, fun e => beq_iff_eq.2 (by omega)⟩]
        · rw [if_neg h61, hsz false (fun e => by cases e) ⟨fun e => (by cases e), fun e => absurd e.2.2 h61⟩]
      · rw [if_neg (by omega), hsz false (fun e => by cases e) ⟨fun e => (by cases e), fun e => absurd e.2.1 h⟩]
end Go.Proofs.Ytbiccohcikfgeaa.Pure
