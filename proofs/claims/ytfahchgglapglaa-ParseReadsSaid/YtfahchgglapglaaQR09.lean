/- Layer 9 (lex), plain, for the layers above: the document's part. -/
import Derived.Test.YtfahchgglapglaaQMx0
import Derived.Test.YtfahchgglapglaaQMx11
import Derived.Test.YtfahchgglapglaaQMx12
import Derived.Test.YtfahchgglapglaaQMx13
import Derived.Test.YtfahchgglapglaaQMx14
import Derived.Test.YtfahchgglapglaaQAid
import Derived.Test.YtfahchgglapglaaQM09
import Derived.Test.YtfahchgglapglaaQM09b
import Derived.Test.YtfahchgglapglaaQM09d
namespace Go.Proofs.Ytfahchgglapglaa.Pure
open Go Go.RowKit Go.Proofs.Ytfahchgglapglaa.M Go.Proofs.Ytfahchgglapglaa.Aid Go.Proofs.YtfahchgglapglaaW.PrintWords Go.Proofs.YtfahchgglapglaaW.PrintLast Go.Proofs.YtfahchgglapglaaW.PrintMore
set_option linter.unusedVariables false
set_option linter.unusedSimpArgs false
-- NEEDS fairleadref09_All.f fairleadref09_Number.f fairleadref09_One.f fairleadref09_Skip.f fairleadref09_digit.f fairleadref09_goes.f fairleadref09_run.f fairleadref09_small.f
-- IMPORT M09
-- IMPORT M09b
-- IMPORT M09d
theorem rgoes_is (c : Int) : fairleadref09_goes.f c = some (decide (goesP c)) := goes_is c
theorem run_loop (s : ByteArray) (p : Nat) (hs : s.size ≤ 1000000) (d : Nat) : ∀ (k n : Nat), p + n + d = s.size → d < k → fairleadref09_run.l0 k s p n = some ((n + lenL ((ch s).drop (p + n)) : Nat) : Int) := by
  induction d with
  | zero =>
    intro k n hn hk
    obtain ⟨k, rfl⟩ : ∃ m, k = m + 1 := ⟨k - 1, by omega⟩
    simp only [fairleadref09_run.l0]
    rw [w64_id (by omega) (by omega), if_neg (by omega), List.drop_of_length_le (by rw [ch_len]; omega)]
    rfl
  | succ d ih =>
    intro k n hn hk
    obtain ⟨k, rfl⟩ : ∃ m, k = m + 1 := ⟨k - 1, by omega⟩
    have hlt : p + n < s.size := by omega
    have e : (p : Int) + n = ((p + n : Nat) : Int) := by omega
    simp only [fairleadref09_run.l0]
    rw [w64_id (x := (p : Int) + n) (by omega) (by omega), e, if_pos (by omega), if_pos (by omega), rgoes_is, drop_ch s (p + n) hlt]
    simp only [Option.bind_some, decide_eq_true_eq, lenL]
    by_cases hg : goesP (bt s ((p + n : Nat) : Int))
    · rw [if_pos hg, if_pos hg, w64_id (by omega) (by omega)]
      have := ih k (n + 1) (by omega) (by omega)
      rw [show ((n + 1 : Nat) : Int) = (n : Int) + 1 from by omega] at this
      rw [this, show p + (n + 1) = p + n + 1 from by omega, Nat.add_assoc]
    · rw [if_neg hg, if_neg hg]
      rfl
theorem run_is (s : ByteArray) (p : Nat) (hp : p ≤ s.size) (hs : s.size ≤ 1000000) (k : Nat) (hk : s.size < k) : fairleadref09_run.f k s p = some (lenL ((ch s).drop p) : Int) := by
  have := run_loop s p hs (s.size - p) k 0 (by omega) (by omega)
  simpa [fairleadref09_run.f] using this
theorem skip_loop (s : ByteArray) (hs : s.size ≤ 1000000) (d : Nat) : (∀ (k n : Nat), n + d = s.size → 3 * d + 1 < k → fairleadref09_Skip.l0 k s n = some ((n + blankL ((ch s).drop n) false : Nat) : Int)) ∧
    (∀ (k n : Nat), n + d = s.size → 3 * d + 2 < k → fairleadref09_Skip.l1 k s n = some ((n + blankL ((ch s).drop n) true : Nat) : Int)) := by
  induction d with
  | zero =>
    have h0 : ∀ (k n : Nat), n + 0 = s.size → 3 * 0 + 1 < k → fairleadref09_Skip.l0 k s n = some ((n + blankL ((ch s).drop n) false : Nat) : Int) := by
      intro k n hn hk
      obtain ⟨k, rfl⟩ : ∃ m, k = m + 1 := ⟨k - 1, by omega⟩
      simp only [fairleadref09_Skip.l0]
      rw [if_neg (by omega), List.drop_of_length_le (by rw [ch_len]; omega)]
      rfl
    refine ⟨h0, fun k n hn hk => ?_⟩
    obtain ⟨k, rfl⟩ : ∃ m, k = m + 1 := ⟨k - 1, by omega⟩
    simp only [fairleadref09_Skip.l1]
    rw [if_neg (by omega), h0 k n hn (by omega), List.drop_of_length_le (by rw [ch_len]; omega)]
    rfl
  | succ d ih =>
    obtain ⟨ih0, ih1⟩ := ih
    have nx : ∀ n : Nat, n + (d + 1) = s.size → wrap64 ((n : Int) + 1) = ((n + 1 : Nat) : Int) := fun n hn => by rw [w64_id (by omega) (by omega)]; omega
    have h1 : ∀ (k n : Nat), n + (d + 1) = s.size → bt s n ≠ 10 → 3 * d + 3 < k → fairleadref09_Skip.l1 k s n = some ((n + (1 + blankL ((ch s).drop (n + 1)) true) : Nat) : Int) := by
      intro k n hn hne hk
      obtain ⟨k, rfl⟩ : ∃ m, k = m + 1 := ⟨k - 1, by omega⟩
      simp only [fairleadref09_Skip.l1]
      rw [if_pos (by omega), if_pos (by omega), if_neg hne, nx n hn, ih1 k (n + 1) (by omega) (by omega), Nat.add_assoc]
    have h0 : ∀ (k n : Nat), n + (d + 1) = s.size → 3 * (d + 1) + 1 < k → fairleadref09_Skip.l0 k s n = some ((n + blankL ((ch s).drop n) false : Nat) : Int) := by
      intro k n hn hk
      obtain ⟨k, rfl⟩ : ∃ m, k = m + 1 := ⟨k - 1, by omega⟩
      have step : fairleadref09_Skip.l0 k s (wrap64 ((n : Int) + 1)) = some ((n + (1 + blankL ((ch s).drop (n + 1)) false) : Nat) : Int) := by
        rw [nx n hn, ih0 k (n + 1) (by omega) (by omega), Nat.add_assoc]
      simp only [fairleadref09_Skip.l0]
      rw [if_pos (by omega), if_pos (by omega), drop_ch s n (by omega)]
      simp only [blankL]
      by_cases h35 : bt s n = 35
      · rw [if_pos h35, if_pos h35, h1 k n hn (by omega) (by omega)]
      · rw [if_neg h35, if_neg h35]
        by_cases hw : wsP (bt s n)
        · rw [if_pos hw]
          by_cases h9 : bt s n = 9
          · rw [if_pos h9, step]
          · rw [if_neg h9]
            by_cases h10 : bt s n = 10
            · rw [if_pos h10, step]
            · rw [if_neg h10]
              by_cases h13 : bt s n = 13
              · rw [if_pos h13, step]
              · rw [if_neg h13, if_pos (by unfold wsP at hw; omega), step]
        · rw [if_neg hw]
          unfold wsP at hw
          rw [if_neg (by omega), if_neg (by omega), if_neg (by omega), if_neg (by omega)]
          rfl
    refine ⟨h0, fun k n hn hk => ?_⟩
    by_cases h10 : bt s n = 10
    · obtain ⟨k, rfl⟩ : ∃ m, k = m + 1 := ⟨k - 1, by omega⟩
      simp only [fairleadref09_Skip.l1]
      rw [if_pos (by omega), if_pos (by omega), if_pos h10, h0 k n hn (by omega), drop_ch s n (by omega)]
      simp only [blankL]
      rw [if_neg (by omega), if_pos (by unfold wsP; omega), h10]
      rfl
    · rw [h1 k n hn h10 (by omega), drop_ch s n (by omega)]
      simp only [blankL]
      rw [bne_iff_ne.2 h10]
theorem skip_is (s : ByteArray) (n : Nat) (hn : n ≤ s.size) (hs : s.size ≤ 1000000) (k : Nat) (hk : 3 * s.size + 1 < k) : fairleadref09_Skip.f k s n = some ((n + blankL ((ch s).drop n) false : Nat) : Int) :=
  (skip_loop s hs (s.size - n)).1 k n (by omega) (by omega)
theorem rnumber_loop (s : ByteArray) (b : Int) (hb : b = 10 ∨ b = 16) (hz : s.size ≤ 1000000) (hs0 : 0 < s.size) (d : Nat) : ∀ (k p : Nat) (n : Int), p + d = s.size → 3 * d < k → 0 ≤ n ∧ n ≤ 18446744073709551615 →
    fairleadref09_Number.l0 k b s n p = some (ansN (numG b ((ch s).drop p) n)) := by
  induction d with
  | zero =>
    intro k p n hp hk hn
    obtain ⟨k, rfl⟩ : ∃ m, k = m + 1 := ⟨k - 1, by omega⟩
    simp only [fairleadref09_Number.l0]
    rw [if_neg (by omega), List.drop_of_length_le (by rw [ch_len]; omega), decide_eq_true (show (s.size : Int) > 0 by omega)]
    rfl
  | succ d ih =>
    intro k p n hp hk hn
    obtain ⟨k, rfl⟩ : ∃ m, k = m + 3 := ⟨k - 3, by omega⟩
    have hlt : p < s.size := by omega
    have hc0 := (bt_range s p).1
    have hc1 := (bt_range s p).2
    have hv := digV_in (bt s p)
    have hb0 : ¬ b = 0 := by omega
    -- what both ways come to
    have fin : ∀ v : Int, v = digV (bt s p) → (if v ≥ b then some ((0 : Int), false) else if b = 0 then none else if n > (18446744073709551615 - v) / b then some (0, false) else fairleadref09_Number.l0 k b s (IntKind.u64.wrap (IntKind.u64.wrap (n * b) + v)) (wrap64 ((p : Int) + 1))) = some (ansN (numG b (bt s p :: (ch s).drop (p + 1)) n)) := by
      rintro v rfl
      simp only [numG]
      by_cases h1 : b ≤ digV (bt s p)
      · rw [if_pos h1, if_pos (.inl h1)]
        rfl
      · rw [if_neg h1, if_neg hb0]
        by_cases h2 : (18446744073709551615 - digV (bt s p)) / b < n
        · rw [if_pos h2, if_pos (.inr h2)]
          rfl
        · have hr := mul_room hb hn.1 hv h2
          rw [if_neg h2, if_neg (by intro h; rcases h with h | h; exact h1 h; exact h2 h), u64_id (x := n * b) (by omega) (by omega), u64_id (by omega) (by omega), w64_id (by omega) (by omega)]
          have := ih k (p + 1) (n * b + digV (bt s p)) (by omega) (by omega) (by omega)
          rw [show ((p + 1 : Nat) : Int) = (p : Int) + 1 from by omega] at this
          exact this
    have td : ∀ v : Int, 0 ≤ v ∧ v ≤ 99 → IntKind.u64.wrap (Int.tdiv (18446744073709551615 - v) b) = (18446744073709551615 - v) / b := fun v hv => by
      have := tdiv_room hb hv
      rwa [u64_id (x := 18446744073709551615 - v) (by omega) (by omega)] at this
    simp only [fairleadref09_Number.l0]
    rw [if_pos (by omega), if_pos (by omega), show fairleadref09_digit.f (bt s p) = some (decide (digitP (bt s p))) from digit_is _, drop_ch s p hlt]
    simp only [Option.bind_some, decide_eq_true_eq]
    by_cases hd : digitP (bt s p)
    · have hd' := hd
      unfold digitP at hd'
      have e : (bt s p - 48) % 256 = digV (bt s p) := by unfold digV; rw [if_pos hd]; omega
      rw [if_pos hd, e]
      simp only [fairleadref09_Number.j3]
      rw [if_neg (by omega)]
      simp only [fairleadref09_Number.j4]
      rw [if_neg (by decide), tdiv_room hb hv]
      exact fin _ rfl
    · rw [if_neg hd]
      simp only [fairleadref09_Number.j3]
      by_cases h97 : bt s p ≥ 97
      · rw [if_pos h97]
        simp only [fairleadref09_Number.j4, decide_eq_true_eq]
        by_cases h102 : bt s p ≤ 102
        · have e : (bt s p - 97) % 256 + 10 = digV (bt s p) := by unfold digV; rw [if_neg hd, if_pos ⟨h97, h102⟩]; omega
          rw [if_pos h102, e, td _ hv]
          exact fin _ rfl
        · have e : (99 : Int) = digV (bt s p) := by unfold digV; rw [if_neg hd, if_neg (by omega)]
          rw [if_neg h102, e, tdiv_room hb hv]
          exact fin _ rfl
      · have e : (99 : Int) = digV (bt s p) := by unfold digV; rw [if_neg hd, if_neg (by omega)]
        rw [if_neg h97]
        simp only [fairleadref09_Number.j4]
        rw [if_neg (by decide), e, tdiv_room hb hv]
        exact fin _ rfl
theorem rnumber_is (s : ByteArray) (hs0 : 0 < s.size) (hz : s.size ≤ 1000000) (k : Nat) (hk : 3 * s.size + 5 < k) : fairleadref09_Number.f k s = some (ansN (NUM (ch s))) := by
  obtain ⟨k, rfl⟩ : ∃ m, k = m + 2 := ⟨k - 2, by omega⟩
  have h10 : fairleadref09_Number.j1 (k + 1) 10 s = some (ansN (numG 10 (ch s) 0)) := by
    have := rnumber_loop s 10 (.inl rfl) hz hs0 s.size k 0 0 (by omega) (by omega) (by decide)
    simp only [fairleadref09_Number.j1]
    simpa using this
  unfold fairleadref09_Number.f NUM
  rw [ch_len]
  by_cases h1 : (s.size : Int) > 1
  · have r0 : rd (ch s) 0 = bt s 0 := rd_ch s 0 (by omega)
    have r1 : rd (ch s) 1 = bt s 1 := rd_ch s 1 (by omega)
    rw [if_pos h1, if_pos (by omega), r0, r1]
    simp only [fairleadref09_Number.j0]
    by_cases h2 : bt s 0 = 48
    · rw [if_pos (beq_iff_eq.2 h2), if_pos (by omega), if_pos (show 1 < s.size ∧ bt s 0 = 48 from ⟨by omega, h2⟩)]
      by_cases h3 : bt s 1 = 120
      · rw [if_pos h3]
        by_cases h4 : (s.size : Int) < 3
        · rw [if_pos h4, if_neg (by omega)]; rfl
        · rw [if_neg h4]
          by_cases h5 : (s.size : Int) > 18
          · rw [if_pos h5, if_neg (by omega)]; rfl
          · have ht := ch_tail s 2
            have hz2 : (s.extract 2 s.size).size = s.size - 2 := by rw [← ch_len, ht, List.length_drop, ch_len]
            have := rnumber_loop (s.extract 2 s.size) 16 (.inr rfl) (by omega) (by omega) (s.size - 2) k 0 0 (by omega) (by omega) (by decide)
            rw [if_neg h5, if_pos (by omega), if_pos (show bt s 1 = 120 ∧ 3 ≤ s.size ∧ s.size ≤ 18 from ⟨h3, by omega, by omega⟩)]
            simp only [fairleadref09_Number.j1]
            rw [Int.natCast_zero] at this
            rw [this, List.drop_zero, ht]
      · rw [if_neg h3, if_neg (show ¬ (bt s 1 = 120 ∧ 3 ≤ s.size ∧ s.size ≤ 18) from fun h => h3 h.1)]; rfl
    · rw [if_neg (by simpa using h2), if_neg (show ¬ (1 < s.size ∧ bt s 0 = 48) from fun h => h2 h.2), h10]
  · rw [if_neg h1, if_neg (by omega)]
    simp only [fairleadref09_Number.j0]
    rw [if_neg (by decide), h10]
theorem rone_j0 (s : ByteArray) (p : Nat) (hp : p < s.size) (hz : s.size ≤ 1000000) (two : Bool) (h2 : two = true → p + 1 < s.size) (k : Nat) :
    fairleadref09_One.j0 (k + 1) s p (bt s p) two 3 p ⟨#[]⟩ 0 = some (if two = true then (3, (p : Int), s.extract p (p + 2), 0, 0) else if bt s p = 59 ∨ bt s p = 44 ∨ bt s p = 60 ∨ bt s p = 62 ∨ bt s p = 38 then (3, (p : Int), s.extract p (p + 1), 0, 0) else (0, 0, ⟨#[]⟩, 0, 5)) := by
  have e1 : ((p : Int) + 1).toNat = p + 1 := by omega
  have e2 : ((p : Int) + 2).toNat = p + 2 := by omega
  simp only [fairleadref09_One.j0]
  rw [wide_ok (x := (p : Int) + 2) (by omega) (by omega), wide_ok (x := (p : Int) + 1) (by omega) (by omega), e1, e2, Int.toNat_natCast]
  cases two with
  | true =>
    have := h2 rfl
    rw [if_pos rfl, if_pos (by omega), if_pos (by omega), if_pos (by omega), if_pos rfl]
  | false =>
    rw [if_neg (show ¬ false = true by decide), if_neg (show ¬ false = true by decide)]
    by_cases c1 : bt s p = 59
    · rw [if_pos c1, if_pos (by omega), if_pos (by omega), if_pos (by omega), if_pos (.inl c1)]
    · rw [if_neg c1]
      by_cases c2 : bt s p = 44
      · rw [if_pos c2, if_pos (by omega), if_pos (by omega), if_pos (by omega), if_pos (.inr (.inl c2))]
      · rw [if_neg c2]
        by_cases c3 : bt s p = 60
        · rw [if_pos c3, if_pos (by omega), if_pos (by omega), if_pos (by omega), if_pos (.inr (.inr (.inl c3)))]
        · rw [if_neg c3]
          by_cases c4 : bt s p = 62
          · rw [if_pos c4, if_pos (by omega), if_pos (by omega), if_pos (by omega), if_pos (.inr (.inr (.inr (.inl c4))))]
          · rw [if_neg c4]
            by_cases c5 : bt s p = 38
            · rw [if_pos c5, if_pos (by omega), if_pos (by omega), if_pos (by omega), if_pos (.inr (.inr (.inr (.inr c5))))]
            · rw [if_neg c5, if_neg (by omega)]
theorem sgn_tok (s : ByteArray) (p : Nat) (hp : p < s.size) (hz : s.size ≤ 1000000) (two : Bool) (ht : two = true → p + 1 < s.size) (hi : two = true ↔ (bt s p = 61 ∨ bt s p = 33 ∨ bt s p = 60 ∨ bt s p = 62) ∧ p + 1 < s.size ∧ bt s ((p + 1 : Nat) : Int) = 61) (k : Nat) :
    fairleadref09_One.j0 (k + 1) s p (bt s p) two 3 p ⟨#[]⟩ 0 = some (if (SGN (signL ((ch s).drop p))).2.2.2 = 0 then ((SGN (signL ((ch s).drop p))).1, (p : Int), s.extract p (p + (SGN (signL ((ch s).drop p))).2.1), (SGN (signL ((ch s).drop p))).2.2.1, 0) else (0, 0, ⟨#[]⟩, 0, (SGN (signL ((ch s).drop p))).2.2.2)) := by
  rw [rone_j0 s p hp hz two ht, sign_at s p hp two hi]
  have s2 : SGN 2 = (3, 2, 0, 0) := rfl
  have s1 : SGN 1 = (3, 1, 0, 0) := rfl
  have s0 : SGN 0 = (0, 0, 0, 5) := rfl
  cases two with
  | true => simp only [if_true, s2]
  | false =>
    rw [if_neg (show ¬ false = true by decide), if_neg (show ¬ false = true by decide)]
    by_cases hw : bt s p = 59 ∨ bt s p = 44 ∨ bt s p = 60 ∨ bt s p = 62 ∨ bt s p = 38
    · rw [if_pos hw, if_pos hw, s1]
      simp only [if_true]
    · rw [if_neg hw, if_neg hw, s0]
      rw [if_neg (by decide)]
theorem rone_is (s : ByteArray) (p : Nat) (hp : p < s.size) (hz : s.size ≤ 1000000) (k : Nat) (hk : 3 * s.size + 10 < k) : fairleadref09_One.f k s p = some (ONEr s p) := by
  obtain ⟨k, rfl⟩ : ∃ m, k = m + 1 := ⟨k - 1, by omega⟩
  generalize hR : ONEr s p = R
  have r0 := rd_drop s p hp
  have hb := bt_range s p
  have hlen : ((ch s).drop p).length = s.size - p := by rw [List.length_drop, ch_len]
  have hl := lenL_le ((ch s).drop p)
  have hcut : ∀ n : Nat, ((p : Int) + n).toNat = p + n := fun n => by omega
  have hext : ch (s.extract p (p + lenL ((ch s).drop p))) = ((ch s).drop p).take (lenL ((ch s).drop p)) := by
    rw [ch_extract, List.drop_take, Nat.add_sub_cancel_left]
  unfold fairleadref09_One.f
  rw [if_pos (by omega), if_pos (by omega), show fairleadref09_small.f (bt s p) = some (decide (smallP (bt s p))) from small_is _, show fairleadref09_digit.f (bt s p) = some (decide (digitP (bt s p))) from digit_is _, run_is s p (by omega) hz (k + 1) (by omega)]
  rw [Option.bind_some]
  by_cases h1 : smallP (bt s p)
  · have hO : ONE ((ch s).drop p) = (1, lenL ((ch s).drop p), 0, 0) := by unfold ONE; rw [r0, if_pos h1]
    rw [if_pos (decide_eq_true h1), Option.bind_some, wide_ok (by omega) (by omega), if_pos (by omega), if_pos (by omega), hcut, Int.toNat_natCast, ← hR]
    unfold ONEr
    rw [hO]
    rfl
  · rw [if_neg (fun e => h1 (of_decide_eq_true e)), Option.bind_some]
    by_cases h2 : digitP (bt s p)
    · have hpos : 0 < lenL ((ch s).drop p) := by
        rw [drop_ch s p hp]
        simp only [lenL]
        rw [if_pos (.inr (.inl h2))]
        omega
      have hsz : (s.extract p (p + lenL ((ch s).drop p))).size = lenL ((ch s).drop p) := by rw [← ch_len, hext, List.length_take]; omega
      have hnum := rnumber_is (s.extract p (p + lenL ((ch s).drop p))) (by omega) (by omega) (k + 1) (by omega)
      rw [hext] at hnum
      rw [if_pos (decide_eq_true h2), Option.bind_some, wide_ok (by omega) (by omega), if_pos (by omega), if_pos (by omega), hcut, Int.toNat_natCast, hnum, Option.bind_some, ← hR]
      have hO : ONE ((ch s).drop p) = (match NUM (((ch s).drop p).take (lenL ((ch s).drop p))) with | some v => (2, lenL ((ch s).drop p), v, 0) | none => (0, 0, 0, 6)) := by
        unfold ONE; rw [r0, if_neg h1, if_pos h2]
        all_goals (cases NUM (((ch s).drop p).take (lenL ((ch s).drop p))) <;> rfl)
      unfold ONEr
      rw [hO]
      cases NUM (((ch s).drop p).take (lenL ((ch s).drop p))) with
      | none => rfl
      | some v => rfl
    · rw [if_neg (fun e => h2 (of_decide_eq_true e)), wide_ok (x := (p : Int) + 1) (by omega) (by omega), show (p : Int) + 1 = ((p + 1 : Nat) : Int) from by omega]
      have hO : ONE ((ch s).drop p) = SGN (signL ((ch s).drop p)) := by unfold ONE SGN; rw [r0, if_neg h1, if_neg h2]
      have hsz : ∀ two : Bool, (two = true → p + 1 < s.size) → (two = true ↔ (bt s p = 61 ∨ bt s p = 33 ∨ bt s p = 60 ∨ bt s p = 62) ∧ p + 1 < s.size ∧ bt s ((p + 1 : Nat) : Int) = 61) → fairleadref09_One.j0 (k + 1) s p (bt s p) two 3 p ⟨#[]⟩ 0 = some R := fun two ht hi => by
        have := sgn_tok s p hp hz two ht hi k
        rw [← hO] at this
        rw [← hR]
        exact this
      by_cases h : p + 1 < s.size
      · rw [if_pos (by omega), if_pos (by omega)]
        by_cases h61 : bt s ((p + 1 : Nat) : Int) = 61
        · rw [if_pos h61]
          by_cases c1 : bt s p = 61
          · rw [if_pos c1, hsz true (fun _ => h) ⟨fun _ => ⟨.inl c1, h, h61⟩, fun _ => rfl⟩]
          · rw [if_neg c1]
            by_cases c2 : bt s p = 33
            · rw [if_pos c2, hsz true (fun _ => h) ⟨fun _ => ⟨.inr (.inl c2), h, h61⟩, fun _ => rfl⟩]
            · rw [if_neg c2]
              by_cases c3 : bt s p = 60
              · rw [if_pos c3, hsz true (fun _ => h) ⟨fun _ => ⟨.inr (.inr (.inl c3)), h, h61⟩, fun _ => rfl⟩]
              · rw [if_neg c3, hsz _ (fun _ => h) ⟨fun e => ⟨.inr (.inr (.inr (beq_iff_eq.1 e))), h, h61⟩, fun e => beq_iff_eq.2 (by omega)⟩]
        · rw [if_neg h61, hsz false (fun e => by cases e) ⟨fun e => (by cases e), fun e => absurd e.2.2 h61⟩]
      · rw [if_neg (by omega), hsz false (fun e => by cases e) ⟨fun e => (by cases e), fun e => absurd e.2.1 h⟩]
theorem rall_loop (s : ByteArray) (hz : s.size ≤ 100000) (f : Nat) : ∀ (k p : Nat) (out : List S39), p ≤ s.size → s.size - p < f → f + 3 * s.size + 12 < k → out.length + (s.size - p) ≤ 200000 →
    fairleadref09_All.l0 k s out p = some (fin out (allP s f p)) := by
  induction f with
  | zero => intro k p out _ h; omega
  | succ f ih =>
    intro k p out hp hf hk ho
    obtain ⟨k, rfl⟩ : ∃ m, k = m + 1 := ⟨k - 1, by omega⟩
    simp only [fairleadref09_All.l0, allP]
    by_cases hlt : p < s.size
    · rw [if_pos (by omega), if_pos hlt, rone_is s p hlt (by omega) k (by omega), Option.bind_some]
      unfold ONEr
      by_cases he : (ONE ((ch s).drop p)).2.2.2 = 0
      · have hn := one_len s p hlt he
        have hts := ext_size s p (ONE ((ch s).drop p)).2.1 hn.2
        rw [if_pos he, if_pos he]
        generalize hN : (ONE ((ch s).drop p)).2.1 = N at *
        have hbl := blankL_le ((ch s).drop (p + N)) false
        rw [List.length_drop, ch_len] at hbl
        rw [if_pos (show (0 : Int) = 0 from rfl), if_pos (by omega)]
        show (fairleadref09_Skip.f k s (wrap64 ((p : Int) + ((s.extract p (p + N)).size : Int)))).bind _ = _
        rw [hts, wide_ok (by omega) (by omega), show (p : Int) + N = ((p + N : Nat) : Int) from by omega, skip_is s (p + N) (by omega) (by omega) k (by omega), Option.bind_some]
        have := ih k (p + N + blankL ((ch s).drop (p + N)) false) (out ++ [TOK s p]) (by omega) (by omega) (by omega) (by rw [List.length_append, List.length_singleton]; omega)
        have hT : TOK s p = ⟨(ONE ((ch s).drop p)).1, (p : Int), s.extract p (p + N), (ONE ((ch s).drop p)).2.2.1⟩ := by unfold TOK; rw [hN]
        rw [hT] at this
        rw [this, ← hT]
        unfold fin
        generalize allP s f (p + N + blankL ((ch s).drop (p + N)) false) = r
        by_cases hr : r.2.1 = 0
        · rw [if_pos hr, if_pos hr, if_pos rfl, List.append_assoc, List.singleton_append]
        · rw [if_neg hr, if_neg hr, if_neg hr]
      · rw [if_neg he, if_neg he, if_neg he]
        unfold fin
        rw [if_neg he]
    · rw [if_neg (by omega), if_neg hlt, if_pos (by omega)]
      rfl
theorem rall_is (s : ByteArray) (k : Nat) (hk : 40000 ≤ k) : fairleadref09_All.f k s = some (ALL s) := by
  unfold fairleadref09_All.f ALL
  by_cases h : 8192 < s.size
  · rw [if_pos (by omega), if_pos h]
  · have hb := blankL_le (ch s) false
    rw [ch_len] at hb
    have hs := skip_is s 0 (by omega) (by omega) k (by omega)
    rw [List.drop_zero, Nat.zero_add] at hs
    rw [if_neg (by omega), if_neg h]
    rw [Int.natCast_zero] at hs
    rw [hs, Option.bind_some]
    exact rall_loop s (by omega) (s.size + 1) k _ [] hb (by omega) (by omega) (by simp; omega)
end Go.Proofs.Ytfahchgglapglaa.Pure
