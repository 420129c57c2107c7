/- Layer 4 (data), plain: the document's answer. -/
import Derived.Test.YtadglbmghldnfaaEMx0
import Derived.Test.YtadglbmghldnfaaEMx5
import Derived.Test.YtadglbmghldnfaaEMx13
import Derived.Test.YtadglbmghldnfaaEMx14
import Derived.Test.YtadglbmghldnfaaEAid
import Derived.Test.YtadglbmghldnfaaEL04a
import Derived.Test.YtadglbmghldnfaaEL04n
namespace Go.Proofs.Ytadglbmghldnfaa.Pure
open Go Go.RowKit Go.Proofs.Ytadglbmghldnfaa.M Go.Proofs.Ytadglbmghldnfaa.Aid Go.Proofs.YtadglbmghldnfaaW.PrintWords Go.Proofs.YtadglbmghldnfaaW.PrintLast Go.Proofs.YtadglbmghldnfaaW.PrintMore
set_option linter.unusedVariables false
set_option linter.unusedSimpArgs false
-- NEEDS data_laid.f data_Halves.f fairleadref04_low.f fairleadref04_Bytes.f
-- IMPORT L04a
-- IMPORT L04n
theorem low_loop (N : Nat) (hN : N ≤ 8) (d : Nat) : ∀ (k i : Nat) (x : Int) (out : List Int), 0 ≤ x ∧ x ≤ 18446744073709551615 → i + d = N → d < k → out.length + d ≤ 1000 →
    fairleadref04_low.l0 k x N out i = some (out ++ lowL d x) := by
  induction d with
  | zero =>
    intro k i x out hx hi hk _
    obtain ⟨k, rfl⟩ : ∃ m, k = m + 1 := ⟨k - 1, by omega⟩
    simp only [fairleadref04_low.l0]
    rw [if_neg (by omega)]
    simp [lowL]
  | succ d ih =>
    intro k i x out hx hi hk ho
    obtain ⟨k, rfl⟩ : ∃ m, k = m + 1 := ⟨k - 1, by omega⟩
    have w : wrap64 ((i : Int) + 1) = ((i + 1 : Nat) : Int) := by unfold wrap64; omega
    simp only [fairleadref04_low.l0, w]
    clear w
    rw [if_pos (by omega), if_pos (by omega), Int.tdiv_eq_ediv_of_nonneg hx.1, Int.tmod_eq_emod_of_nonneg hx.1, u64_id (by omega) (by omega), show x % 256 % 256 = x % 256 from by omega,
      ih k (i + 1) (x / 256) _ (by omega) (by omega) (by omega) (by rw [List.length_append, List.length_singleton]; omega)]
    simp [lowL]
theorem low_is (N : Nat) (hN : N ≤ 8) {x : Int} (hx : 0 ≤ x ∧ x ≤ 18446744073709551615) (k : Nat) (hk : 9 ≤ k) : fairleadref04_low.f k x N = some (lowL N x) := by
  have := low_loop N hN N k 0 x [] hx (by omega) (by omega) (by simp; omega)
  simpa [fairleadref04_low.f] using this
theorem rb_step (a0 a1 a2 a3 a4 a5 a6 a7 a8 : Int) (k : Nat) (hk : 9 ≤ k) (i : Int) (out : List Int) (x : Int) (hx : 0 ≤ x ∧ x ≤ 18446744073709551615) (ho : out.length ≤ 1000)
    (hi : i = 0 ∧ x = a3 ∨ i = 1 ∧ x = a4 ∨ i = 2 ∧ x = a5 ∨ i = 3 ∧ x = a6 ∨ i = 4 ∧ x = a7 ∨ i = 5 ∧ x = a8) :
    fairleadref04_Bytes.l0 (k + 1) out i a0 a1 a2 a3 a4 a5 a6 a7 a8 = fairleadref04_Bytes.l0 k (out ++ lowL 8 x) (i + 1) a0 a1 a2 a3 a4 a5 a6 a7 a8 := by
  have e8 : fairleadref04_low.f k x 8 = some (lowL 8 x) := low_is 8 (by decide) hx k hk
  have hl := lowL_len 8 x
  rcases hi with ⟨rfl, rfl⟩ | ⟨rfl, rfl⟩ | ⟨rfl, rfl⟩ | ⟨rfl, rfl⟩ | ⟨rfl, rfl⟩ | ⟨rfl, rfl⟩
  all_goals
    rw [fairleadref04_Bytes.l0]
    simp only [Int.reduceLT, Int.reduceEq, if_true, if_false, e8, Option.bind_some]
    rw [if_pos (by omega)]
    rfl
theorem rb_end (a0 a1 a2 a3 a4 a5 a6 a7 a8 : Int) (k : Nat) (out : List Int) : fairleadref04_Bytes.l0 (k + 1) out 6 a0 a1 a2 a3 a4 a5 a6 a7 a8 = some out := by
  rw [fairleadref04_Bytes.l0]
  rw [if_neg (by decide)]
theorem rbytes_is {a0 a1 a2 a3 a4 a5 a6 a7 a8 : Int} (h : DOk a0 a1 a2 a3 a4 a5 a6 a7 a8) (k : Nat) (hk : 20 ≤ k) : fairleadref04_Bytes.f k a0 a1 a2 a3 a4 a5 a6 a7 a8 = some ((WS a0 a1 a2 a3 a4 a5 a6 a7 a8).flatMap b4) := by
  obtain ⟨h0, h1, h2, h3, h4, h5, h6, h7, h8⟩ := h
  obtain ⟨k, rfl⟩ : ∃ m, k = m + 9 + 7 := ⟨k - 16, by omega⟩
  generalize hq : k + 9 = q
  have hq9 : 9 ≤ q := by omega
  have e0 : fairleadref04_low.f (q + 7) a0 4 = some (lowL 4 a0) := low_is 4 (by decide) (by omega) _ (by omega)
  have e1 : fairleadref04_low.f (q + 7) a1 4 = some (lowL 4 a1) := low_is 4 (by decide) (by omega) _ (by omega)
  have e8 : ∀ (m : Nat) (x : Int), 9 ≤ m → 0 ≤ x ∧ x ≤ 18446744073709551615 → fairleadref04_low.f m x 8 = some (lowL 8 x) := fun m x hm hx => low_is 8 (by decide) hx m hm
  unfold fairleadref04_Bytes.f
  rw [u64_id (by omega) (by omega), u64_id (by omega) (by omega), e0, e1, e8 _ _ (by omega) h2]
  simp only [Option.bind_some]
  rw [if_pos (by rw [lowL_len, lowL_len]; decide), if_pos (by rw [List.length_append, lowL_len, lowL_len, lowL_len]; decide)]
  have hs : ∀ (m : Nat) (i : Int) (out : List Int) (x : Int), 9 ≤ m → 0 ≤ x ∧ x ≤ 18446744073709551615 → out.length ≤ 1000 → _ → _ := fun m i out x hm hx ho hi => rb_step a0 a1 a2 a3 a4 a5 a6 a7 a8 m hm i out x hx ho hi
  rw [hs (q + 6) 0 _ a3 (by omega) h3 (by simp only [lowL_len, List.length_append]; decide) (by simp)]
  rw [hs (q + 5) _ _ a4 (by omega) h4 (by simp only [lowL_len, List.length_append]; decide) (by simp)]
  rw [hs (q + 4) _ _ a5 (by omega) h5 (by simp only [lowL_len, List.length_append]; decide) (by simp)]
  rw [hs (q + 3) _ _ a6 (by omega) h6 (by simp only [lowL_len, List.length_append]; decide) (by simp)]
  rw [hs (q + 2) _ _ a7 (by omega) h7 (by simp only [lowL_len, List.length_append]; decide) (by simp)]
  rw [hs (q + 1) _ _ a8 (by omega) h8 (by simp only [lowL_len, List.length_append]; decide) (by simp)]
  rw [show (0 + 1 + 1 + 1 + 1 + 1 + 1 : Int) = 6 from rfl, rb_end, low4 (by omega), low4 (by omega), low8 h2, low8 h3, low8 h4, low8 h5, low8 h6, low8 h7, low8 h8]
  simp only [WS, List.flatMap_cons, List.flatMap_nil, List.append_assoc, List.append_nil]
end Go.Proofs.Ytadglbmghldnfaa.Pure
