/- Layer 9 (lex), plain: the laws' small helpers. -/
import Derived.Test.YtbiccohcikfgeaaMx2
import Derived.Test.YtbiccohcikfgeaaMx4
import Derived.Test.YtbiccohcikfgeaaMx5
import Derived.Test.YtbiccohcikfgeaaMx8
import Derived.Test.YtbiccohcikfgeaaAid
import Derived.Test.YtbiccohcikfgeaaL09
import Derived.Test.YtbiccohcikfgeaaL09a
import Derived.Test.YtbiccohcikfgeaaL09b
import Derived.Test.YtbiccohcikfgeaaL09c
namespace Go.Proofs.Ytbiccohcikfgeaa.Pure
open Go Go.RowKit Go.Proofs.Ytbiccohcikfgeaa.M Go.Proofs.Ytbiccohcikfgeaa.Aid Go.Proofs.YtbiccohcikfgeaaW.PrintWords Go.Proofs.YtbiccohcikfgeaaW.PrintLast Go.Proofs.YtbiccohcikfgeaaW.PrintMore
set_option linter.unusedVariables false
set_option linter.unusedSimpArgs false

-- NEEDS lex_length.f lex_blank.f lex_goes.f lex_small.f lex_digit.f fairleadref09_run.f lex_All.f lex_Is.f fairleadref09_All.f fairleadref09_Is.f fairleadref09_Same.f fairleadlaw09_awake.f
-- IMPORT L09
-- IMPORT L09a
-- IMPORT L09b
-- IMPORT L09c

/-- Is a text a word? -/
def ISW (s : ByteArray) : Bool := decide (0 < s.size ∧ smallP (bt s 0) ∧ lenL (ch s) = s.size)
theorem nil_size (s : ByteArray) : s.toList = ([] : List UInt8) ↔ s.size = 0 := by
  rw [ByteArray.toList_eq, Array.toList_eq_nil_iff]
  constructor
  · intro h
    show s.data.size = 0
    rw [h]
    rfl
  · intro h
    exact Array.eq_empty_of_size_eq_zero h
theorem is_is (s : ByteArray) (k : Nat) (hk : s.size < k) : lex_Is.f k s = some (ISW s) := by
  unfold lex_Is.f ISW
  have hb := bt_range s 0
  by_cases h0 : s.size = 0
  · rw [if_pos ((nil_size s).2 h0), decide_eq_false (by omega)]
  · rw [if_neg (fun e => h0 ((nil_size s).1 e)), if_pos (by omega), show wrap32 (bt s 0) = bt s 0 from by unfold wrap32; omega, small_is, Option.bind_some]
    by_cases h1 : smallP (bt s 0)
    · rw [if_pos (decide_eq_true h1), length_is s k hk, Option.bind_some]
      congr 1
      rw [Bool.eq_iff_iff, beq_iff_eq, decide_eq_true_eq]
      exact ⟨fun e => ⟨by omega, h1, by omega⟩, fun e => by omega⟩
    · rw [if_neg (fun e => h1 (of_decide_eq_true e)), decide_eq_false (fun e => h1 e.2.1)]
theorem ris_is (s : ByteArray) (hz : s.size ≤ 1000000) (k : Nat) (hk : s.size < k) : fairleadref09_Is.f k s = some (ISW s) := by
  unfold fairleadref09_Is.f ISW
  by_cases h0 : s.size = 0
  · rw [if_neg (by omega), decide_eq_false (by omega)]
  · rw [if_pos (by omega), if_pos (by omega), show fairleadref09_small.f (bt s 0) = some (decide (smallP (bt s 0))) from small_is _, Option.bind_some]
    by_cases h1 : smallP (bt s 0)
    · have := run_is s 0 (by omega) hz k hk
      rw [List.drop_zero, Int.natCast_zero] at this
      rw [if_pos (decide_eq_true h1), this, Option.bind_some]
      congr 1
      rw [Bool.eq_iff_iff, beq_iff_eq, decide_eq_true_eq]
      exact ⟨fun e => ⟨by omega, h1, by omega⟩, fun e => by omega⟩
    · rw [if_neg (fun e => h1 (of_decide_eq_true e)), decide_eq_false (fun e => h1 e.2.1)]
theorem same9_loop (a : List S31) (hl : a.length ≤ 100000) (d : Nat) : ∀ (k i : Nat), i + d = a.length → d < k → fairleadref09_Same.l0 k a a i = some true := by
  induction d with
  | zero =>
    intro k i hi hk
    obtain ⟨k, rfl⟩ : ∃ m, k = m + 1 := ⟨k - 1, by omega⟩
    simp only [fairleadref09_Same.l0]
    rw [if_neg (by omega)]
  | succ d ih =>
    intro k i hi hk
    obtain ⟨k, rfl⟩ : ∃ m, k = m + 1 := ⟨k - 1, by omega⟩
    simp only [fairleadref09_Same.l0]
    rw [if_pos (by omega), if_pos (by omega), if_pos (by omega), if_neg (by simp), w64_id (by omega) (by omega)]
    have := ih k (i + 1) (by omega) (by omega)
    rwa [show ((i + 1 : Nat) : Int) = (i : Int) + 1 from by omega] at this
theorem same9 (a : List S31) (hl : a.length ≤ 100000) (k : Nat) (hk : a.length < k) : fairleadref09_Same.f k a a = some true := by
  unfold fairleadref09_Same.f
  rw [if_pos rfl]
  have := same9_loop a hl a.length k 0 (by omega) hk
  rwa [Int.natCast_zero] at this
theorem allP_len (s : ByteArray) (f : Nat) : ∀ p, (allP s f p).1.length ≤ f := by
  induction f with
  | zero => intro p; exact Nat.le_refl _
  | succ f ih =>
    intro p
    simp only [allP]
    split
    · split
      · split
        · rw [List.length_cons]
          have := ih (p + (ONE ((ch s).drop p)).2.1 + blankL ((ch s).drop (p + (ONE ((ch s).drop p)).2.1)) false)
          omega
        · simp
      · simp
    · simp
theorem ALL_len (s : ByteArray) : (ALL s).1.length ≤ 8193 := by
  unfold ALL
  split
  · simp
  · unfold fin
    have := allP_len s (s.size + 1) (blankL (ch s) false)
    split
    · rw [List.nil_append]; show (allP s _ _).1.length ≤ _; omega
    · simp
theorem awake09 (k : Nat) (hk : 40000 ≤ k) : fairleadlaw09_awake.f k = some true := by
  unfold fairleadlaw09_awake.f
  rw [all_is _ k hk, Option.bind_some, is_is _ k (by show 3 < k; omega), Option.bind_some]
  rfl
end Go.Proofs.Ytbiccohcikfgeaa.Pure
