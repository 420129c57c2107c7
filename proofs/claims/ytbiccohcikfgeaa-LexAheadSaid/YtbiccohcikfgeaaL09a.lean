/- Layer 9 (lex), plain: numbers, tokens, all tokens of a text. -/
import Derived.Test.YtbiccohcikfgeaaMx2
import Derived.Test.YtbiccohcikfgeaaMx3
import Derived.Test.YtbiccohcikfgeaaMx4
import Derived.Test.YtbiccohcikfgeaaMx5
import Derived.Test.YtbiccohcikfgeaaMx6
import Derived.Test.YtbiccohcikfgeaaMx7
import Derived.Test.YtbiccohcikfgeaaMx8
import Derived.Test.YtbiccohcikfgeaaAid
import Derived.Test.YtbiccohcikfgeaaL09
namespace Go.Proofs.Ytbiccohcikfgeaa.Pure
open Go Go.RowKit Go.Proofs.Ytbiccohcikfgeaa.M Go.Proofs.Ytbiccohcikfgeaa.Aid Go.Proofs.YtbiccohcikfgeaaW.PrintWords Go.Proofs.YtbiccohcikfgeaaW.PrintLast Go.Proofs.YtbiccohcikfgeaaW.PrintMore
set_option linter.unusedVariables false
set_option linter.unusedSimpArgs false

-- NEEDS lex_length.f lex_blank.f lex_goes.f lex_small.f lex_digit.f fairleadref09_run.f fairleadref09_Skip.f fairleadref09_goes.f lex_worth.f lex_number.f lex_sign.f lex_one.f lex_All.f lex_Is.f fairleadref09_Number.f fairleadref09_One.f fairleadref09_All.f fairleadref09_Is.f fairleadlaw09_awake.f
-- IMPORT L09

theorem run_loop (s : ByteArray) (p : Nat) (hs : s.size ≤ 1000000) (d : Nat) : ∀ (k n : Nat), p + n + d = s.size → d < k → fairleadref09_run.l0 k s p n = some ((n + lenL ((ch s).drop (p + n)) : Nat) : Int) := by
  induction d with
  | zero =>
    intro k n hn hk
    obtain ⟨k, rfl⟩ : ∃ m, k = m + 1 := ⟨k - 1, by omega⟩
    simp only [fairleadref09_run.l0]
    rw [w64_id (by omega) (by omega), if_neg (by omega), List.drop_of_length_le (by rw [ch_len]; omega)]
    rfl
  | succ d ih =>
    intro k n hn hk
    obtain ⟨k, rfl⟩ : ∃ m, k = m + 1 := ⟨k - 1, by omega⟩
    have hlt : p + n < s.size := by omega
    have e : (p : Int) + n = ((p + n : Nat) : Int) := by omega
    simp only [fairleadref09_run.l0]
    rw [w64_id (x := (p : Int) + n) (by omega) (by omega), e, if_pos (by omega), if_pos (by omega), rgoes_is, drop_ch s (p + n) hlt]
    simp only [Option.bind_some, decide_eq_true_eq, lenL]
    by_cases hg : goesP (bt s ((p + n : Nat) : Int))
    · rw [if_pos hg, if_pos hg, w64_id (by omega) (by omega)]
      have := ih k (n + 1) (by omega) (by omega)
      rw [show ((n + 1 : Nat) : Int) = (n : Int) + 1 from by omega] at this
      rw [this, show p + (n + 1) = p + n + 1 from by omega, Nat.add_assoc]
    · rw [if_neg hg, if_neg hg]
      rfl
theorem run_is (s : ByteArray) (p : Nat) (hp : p ≤ s.size) (hs : s.size ≤ 1000000) (k : Nat) (hk : s.size < k) : fairleadref09_run.f k s p = some (lenL ((ch s).drop p) : Int) := by
  have := run_loop s p hs (s.size - p) k 0 (by omega) (by omega)
  simpa [fairleadref09_run.f] using this
theorem skip_loop (s : ByteArray) (hs : s.size ≤ 1000000) (d : Nat) : (∀ (k n : Nat), n + d = s.size → 3 * d + 1 < k → fairleadref09_Skip.l0 k s n = some ((n + blankL ((ch s).drop n) false : Nat) : Int)) ∧
    (∀ (k n : Nat), n + d = s.size → 3 * d + 2 < k → fairleadref09_Skip.l1 k s n = some ((n + blankL ((ch s).drop n) true : Nat) : Int)) := by
  induction d with
  | zero =>
    have h0 : ∀ (k n : Nat), n + 0 = s.size → 3 * 0 + 1 < k → fairleadref09_Skip.l0 k s n = some ((n + blankL ((ch s).drop n) false : Nat) : Int) := by
      intro k n hn hk
      obtain ⟨k, rfl⟩ : ∃ m, k = m + 1 := ⟨k - 1, by omega⟩
      simp only [fairleadref09_Skip.l0]
      rw [if_neg (by omega), List.drop_of_length_le (by rw [ch_len]; omega)]
      rfl
    refine ⟨h0, fun k n hn hk => ?_⟩
    obtain ⟨k, rfl⟩ : ∃ m, k = m + 1 := ⟨k - 1, by omega⟩
    simp only [fairleadref09_Skip.l1]
    rw [if_neg (by omega), h0 k n hn (by omega), List.drop_of_length_le (by rw [ch_len]; omega)]
    rfl
  | succ d ih =>
    obtain ⟨ih0, ih1⟩ := ih
    have nx : ∀ n : Nat, n + (d + 1) = s.size → wrap64 ((n : Int) + 1) = ((n + 1 : Nat) : Int) := fun n hn => by rw [w64_id (by omega) (by omega)]; omega
    have h1 : ∀ (k n : Nat), n + (d + 1) = s.size → bt s n ≠ 10 → 3 * d + 3 < k → fairleadref09_Skip.l1 k s n = some ((n + (1 + blankL ((ch s).drop (n + 1)) true) : Nat) : Int) := by
      intro k n hn hne hk
      obtain ⟨k, rfl⟩ : ∃ m, k = m + 1 := ⟨k - 1, by omega⟩
      simp only [fairleadref09_Skip.l1]
      rw [if_pos (by omega), if_pos (by omega), if_neg hne, nx n hn, ih1 k (n + 1) (by omega) (by omega), Nat.add_assoc]
    have h0 : ∀ (k n : Nat), n + (d + 1) = s.size → 3 * (d + 1) + 1 < k → fairleadref09_Skip.l0 k s n = some ((n + blankL ((ch s).drop n) false : Nat) : Int) := by
      intro k n hn hk
      obtain ⟨k, rfl⟩ : ∃ m, k = m + 1 := ⟨k - 1, by omega⟩
      have step : fairleadref09_Skip.l0 k s (wrap64 ((n : Int) + 1)) = some ((n + (1 + blankL ((ch s).drop (n + 1)) false) : Nat) : Int) := by
        rw [nx n hn, ih0 k (n + 1) (by omega) (by omega), Nat.add_assoc]
      simp only [fairleadref09_Skip.l0]
      rw [if_pos (by omega), if_pos (by omega), drop_ch s n (by omega)]
      simp only [blankL]
      by_cases h35 : bt s n = 35
      · rw [if_pos h35, if_pos h35, h1 k n hn (by omega) (by omega)]
      · rw [if_neg h35, if_neg h35]
        by_cases hw : wsP (bt s n)
        · rw [if_pos hw]
          by_cases h9 : bt s n = 9
          · rw [if_pos h9, step]
          · rw [if_neg h9]
            by_cases h10 : bt s n = 10
            · rw [if_pos h10, step]
            · rw [if_neg h10]
              by_cases h13 : bt s n = 13
              · rw [if_pos h13, step]
              · rw [if_neg h13, if_pos (by unfold wsP at hw; omega), step]
        · rw [if_neg hw]
          unfold wsP at hw
          rw [if_neg (by omega), if_neg (by omega), if_neg (by omega), if_neg (by omega)]
          rfl
    refine ⟨h0, fun k n hn hk => ?_⟩
    by_cases h10 : bt s n = 10
    · obtain ⟨k, rfl⟩ : ∃ m, k = m + 1 := ⟨k - 1, by omega⟩
      simp only [fairleadref09_Skip.l1]
      rw [if_pos (by omega), if_pos (by omega), if_pos h10, h0 k n hn (by omega), drop_ch s n (by omega)]
      simp only [blankL]
      rw [if_neg (by omega), if_pos (by unfold wsP; omega), h10]
      rfl
    · rw [h1 k n hn h10 (by omega), drop_ch s n (by omega)]
      simp only [blankL]
      rw [bne_iff_ne.2 h10]
theorem skip_is (s : ByteArray) (n : Nat) (hn : n ≤ s.size) (hs : s.size ≤ 1000000) (k : Nat) (hk : 3 * s.size + 1 < k) : fairleadref09_Skip.f k s n = some ((n + blankL ((ch s).drop n) false : Nat) : Int) :=
  (skip_loop s hs (s.size - n)).1 k n (by omega) (by omega)
theorem blankL_le (l : List Int) : ∀ b, blankL l b ≤ l.length := by
  induction l with
  | nil => intro b; cases b <;> exact Nat.le_refl _
  | cons c r ih =>
    intro b
    cases b with
    | true => simp only [blankL, List.length_cons]; have := ih (c != 10); omega
    | false =>
      simp only [blankL, List.length_cons]
      have := ih true; have := ih false
      split
      · omega
      · split <;> omega
/-- A digit's worth. -/
def digV (c : Int) : Int := if digitP c then c - 48 else if 97 ≤ c ∧ c ≤ 102 then c - 87 else 99
theorem digV_in (c : Int) : 0 ≤ digV c ∧ digV c ≤ 99 := by
  unfold digV
  by_cases h : digitP c
  · rw [if_pos h]; unfold digitP at h; omega
  · rw [if_neg h]
    by_cases h2 : 97 ≤ c ∧ c ≤ 102
    · rw [if_pos h2]; omega
    · rw [if_neg h2]; omega
theorem worth_is (c : Int) (h : 0 ≤ c ∧ c ≤ 2147483647) : lex_worth.f c = some (digV c) := by
  unfold lex_worth.f digV
  rw [digit_is]
  simp only [Option.bind_some, decide_eq_true_eq]
  have w : ∀ x : Int, 0 ≤ x → x ≤ 2147483647 → wrap32 x = x := fun x h1 h2 => by unfold wrap32; omega
  by_cases hd : digitP c
  · have := hd
    unfold digitP at this
    rw [if_pos hd, if_pos hd, w _ (by omega) (by omega), u64_id (by omega) (by omega)]
  · rw [if_neg hd, if_neg hd]
    by_cases h1 : c ≥ 97
    · rw [if_pos h1]
      by_cases h2 : c ≤ 102
      · rw [if_pos h2, if_pos ⟨h1, h2⟩, w _ (by omega) (by omega), u64_id (x := c - 97) (by omega) (by omega), u64_id (by omega) (by omega)]
        congr 1
        omega
      · rw [if_neg h2, if_neg (by omega)]
    · rw [if_neg h1, if_neg (by omega)]
/-- A number's worth, digit by digit, if it may be. -/
def numG (b : Int) : List Int → Int → Option Int
  | [], n => some n
  | c :: r, n => if b ≤ digV c ∨ (18446744073709551615 - digV c) / b < n then none else numG b r (n * b + digV c)
def ansN : Option Int → Int × Bool
  | some v => (v, true)
  | none => (0, false)
theorem mul_room {b n d : Int} (hb : b = 10 ∨ b = 16) (hn : 0 ≤ n) (hd : 0 ≤ d ∧ d ≤ 99) (h : ¬ (18446744073709551615 - d) / b < n) : 0 ≤ n * b ∧ n * b + d ≤ 18446744073709551615 := by
  rcases hb with rfl | rfl <;> omega
theorem tdiv_room {b d : Int} (hb : b = 10 ∨ b = 16) (hd : 0 ≤ d ∧ d ≤ 99) : IntKind.u64.wrap (Int.tdiv (IntKind.u64.wrap (18446744073709551615 - d)) b) = (18446744073709551615 - d) / b := by
  rw [u64_id (x := 18446744073709551615 - d) (by omega) (by omega), Int.tdiv_eq_ediv_of_nonneg (by omega)]
  rcases hb with rfl | rfl <;> exact u64_id (by omega) (by omega)
theorem number_loop (s : ByteArray) (b : Int) (hb : b = 10 ∨ b = 16) (hs : ∀ x ∈ ch s, x < 128) (d : Nat) : ∀ (k p : Nat) (n : Int), p + d = s.size → d < k → 0 ≤ n ∧ n ≤ 18446744073709551615 →
    lex_number.l0 k s b p n = some (ansN (numG b ((ch s).drop p) n)) := by
  induction d with
  | zero =>
    intro k p n hp hk hn
    obtain ⟨k, rfl⟩ : ∃ m, k = m + 1 := ⟨k - 1, by omega⟩
    simp only [lex_number.l0]
    rw [if_neg (by omega), List.drop_of_length_le (by rw [ch_len]; omega)]
    rfl
  | succ d ih =>
    intro k p n hp hk hn
    obtain ⟨k, rfl⟩ : ∃ m, k = m + 1 := ⟨k - 1, by omega⟩
    have hlt : p < s.size := by omega
    have hc : bt s p < 128 := hs _ (List.mem_of_mem_drop (by rw [drop_ch s p hlt]; simp))
    have hc0 := (bt_range s p).1
    obtain ⟨e1, e2⟩ := dec_lo s p hlt hc
    have hv := digV_in (bt s p)
    simp only [lex_number.l0]
    rw [if_pos hlt, e1, e2, worth_is _ (by omega), drop_ch s p hlt]
    simp only [Option.bind_some, numG]
    rw [tdiv_room hb hv]
    by_cases h1 : b ≤ digV (bt s p)
    · rw [if_pos h1, if_pos (.inl h1)]
      rfl
    · rw [if_neg h1]
      by_cases h2 : (18446744073709551615 - digV (bt s p)) / b < n
      · rw [if_pos h2, if_pos (.inr h2)]
        rfl
      · have hr := mul_room hb hn.1 hv h2
        rw [if_neg h2, if_neg (by intro h; rcases h with h | h; exact h1 h; exact h2 h), u64_id (x := n * b) (by omega) (by omega), u64_id (by omega) (by omega)]
        exact ih k (p + 1) _ (by omega) (by omega) (by omega)
theorem rnumber_loop (s : ByteArray) (b : Int) (hb : b = 10 ∨ b = 16) (hz : s.size ≤ 1000000) (hs0 : 0 < s.size) (d : Nat) : ∀ (k p : Nat) (n : Int), p + d = s.size → 3 * d < k → 0 ≤ n ∧ n ≤ 18446744073709551615 →
    fairleadref09_Number.l0 k b s n p = some (ansN (numG b ((ch s).drop p) n)) := by
  induction d with
  | zero =>
    intro k p n hp hk hn
    obtain ⟨k, rfl⟩ : ∃ m, k = m + 1 := ⟨k - 1, by omega⟩
    simp only [fairleadref09_Number.l0]
    rw [if_neg (by omega), List.drop_of_length_le (by rw [ch_len]; omega), decide_eq_true (show (s.size : Int) > 0 by omega)]
    rfl
  | succ d ih =>
    intro k p n hp hk hn
    obtain ⟨k, rfl⟩ : ∃ m, k = m + 3 := ⟨k - 3, by omega⟩
    have hlt : p < s.size := by omega
    have hc0 := (bt_range s p).1
    have hc1 := (bt_range s p).2
    have hv := digV_in (bt s p)
    have hb0 : ¬ b = 0 := by omega
    -- what both ways come to
    have fin : ∀ v : Int, v = digV (bt s p) → (if v ≥ b then some ((0 : Int), false) else if b = 0 then none else if n > (18446744073709551615 - v) / b then some (0, false) else fairleadref09_Number.l0 k b s (IntKind.u64.wrap (IntKind.u64.wrap (n * b) + v)) (wrap64 ((p : Int) + 1))) = some (ansN (numG b (bt s p :: (ch s).drop (p + 1)) n)) := by
      rintro v rfl
      simp only [numG]
      by_cases h1 : b ≤ digV (bt s p)
      · rw [if_pos h1, if_pos (.inl h1)]
        rfl
      · rw [if_neg h1, if_neg hb0]
        by_cases h2 : (18446744073709551615 - digV (bt s p)) / b < n
        · rw [if_pos h2, if_pos (.inr h2)]
          rfl
        · have hr := mul_room hb hn.1 hv h2
          rw [if_neg h2, if_neg (by intro h; rcases h with h | h; exact h1 h; exact h2 h), u64_id (x := n * b) (by omega) (by omega), u64_id (by omega) (by omega), w64_id (by omega) (by omega)]
          have := ih k (p + 1) (n * b + digV (bt s p)) (by omega) (by omega) (by omega)
          rw [show ((p + 1 : Nat) : Int) = (p : Int) + 1 from by omega] at this
          exact this
    have td : ∀ v : Int, 0 ≤ v ∧ v ≤ 99 → IntKind.u64.wrap (Int.tdiv (18446744073709551615 - v) b) = (18446744073709551615 - v) / b := fun v hv => by
      have := tdiv_room hb hv
      rwa [u64_id (x := 18446744073709551615 - v) (by omega) (by omega)] at this
    simp only [fairleadref09_Number.l0]
    rw [if_pos (by omega), if_pos (by omega), show fairleadref09_digit.f (bt s p) = some (decide (digitP (bt s p))) from digit_is _, drop_ch s p hlt]
    simp only [Option.bind_some, decide_eq_true_eq]
    by_cases hd : digitP (bt s p)
    · have hd' := hd
      unfold digitP at hd'
      have e : (bt s p - 48) % 256 = digV (bt s p) := by unfold digV; rw [if_pos hd]; omega
      rw [if_pos hd, e]
      simp only [fairleadref09_Number.j3]
      rw [if_neg (by omega)]
      simp only [fairleadref09_Number.j4]
      rw [if_neg (by decide), tdiv_room hb hv]
      exact fin _ rfl
    · rw [if_neg hd]
      simp only [fairleadref09_Number.j3]
      by_cases h97 : bt s p ≥ 97
      · rw [if_pos h97]
        simp only [fairleadref09_Number.j4, decide_eq_true_eq]
        by_cases h102 : bt s p ≤ 102
        · have e : (bt s p - 97) % 256 + 10 = digV (bt s p) := by unfold digV; rw [if_neg hd, if_pos ⟨h97, h102⟩]; omega
          rw [if_pos h102, e, td _ hv]
          exact fin _ rfl
        · have e : (99 : Int) = digV (bt s p) := by unfold digV; rw [if_neg hd, if_neg (by omega)]
          rw [if_neg h102, e, tdiv_room hb hv]
          exact fin _ rfl
      · have e : (99 : Int) = digV (bt s p) := by unfold digV; rw [if_neg hd, if_neg (by omega)]
        rw [if_neg h97]
        simp only [fairleadref09_Number.j4]
        rw [if_neg (by decide), e, tdiv_room hb hv]
        exact fin _ rfl
end Go.Proofs.Ytbiccohcikfgeaa.Pure
