/- Layer 2 (pack), plain: the document's laying. -/
import Derived.Test.YtadglbmghldnfaaEMx0
import Derived.Test.YtadglbmghldnfaaEMx6
import Derived.Test.YtadglbmghldnfaaEMx13
import Derived.Test.YtadglbmghldnfaaEMx14
import Derived.Test.YtadglbmghldnfaaEAid
import Derived.Test.YtadglbmghldnfaaEL02n
namespace Go.Proofs.Ytadglbmghldnfaa.Pure
open Go Go.RowKit Go.Proofs.Ytadglbmghldnfaa.M Go.Proofs.Ytadglbmghldnfaa.Aid Go.Proofs.YtadglbmghldnfaaW.PrintWords Go.Proofs.YtadglbmghldnfaaW.PrintLast Go.Proofs.YtadglbmghldnfaaW.PrintMore
set_option linter.unusedVariables false
set_option linter.unusedSimpArgs false
-- NEEDS fairleadref02_Lay.f fairleadref02_Text.f pack_num
-- IMPORT L02n
theorem set_rep (d : Nat) (v : Int) (R : List Int) : (List.replicate (d + 1) 0 ++ R).set d v = List.replicate d 0 ++ v :: R := by
  rw [List.set_append_left _ _ (by simp), List.replicate_succ', List.set_append_right _ _ (by simp)]
  simp
theorem lay_loop (n : Int) (hn : 0 ≤ n ∧ n ≤ 18446744073709551615) (N : Nat) (hN : N ≤ 8) (d : Nat) : ∀ (k i : Nat), i + d = N → d < k →
    fairleadref02_Lay.l0 k (n / 256 ^ i) N (List.replicate d 0 ++ pack_bytes n i) i = some (if n / 256 ^ N = 0 then (pack_bytes n N, 0) else ([], 1)) := by
  induction d with
  | zero =>
    intro k i hi hk
    obtain ⟨k, rfl⟩ : ∃ m, k = m + 1 := ⟨k - 1, by omega⟩
    obtain rfl : i = N := by omega
    simp only [fairleadref02_Lay.l0]
    rw [if_neg (by omega)]
    simp only [List.replicate_zero, List.nil_append]
    split <;> rfl
  | succ d ih =>
    intro k i hi hk
    obtain ⟨k, rfl⟩ : ∃ m, k = m + 1 := ⟨k - 1, by omega⟩
    have w : wrap64 ((i : Int) + 1) = ((i + 1 : Nat) : Int) := by unfold wrap64; omega
    have w2 : wrap64 (wrap64 ((N : Int) - 1) - (i : Int)) = (d : Int) := by unfold wrap64; omega
    have hx0 : 0 ≤ n / 256 ^ i := Int.ediv_nonneg hn.1 (Int.le_of_lt (Int.pow_pos (by decide)))
    have hx1 : n / 256 ^ i ≤ n := Int.ediv_le_self _ hn.1
    have hq : n / 256 ^ (i + 1) = n / 256 ^ i / 256 := by rw [Int.pow_succ, Int.ediv_ediv_of_nonneg (Int.le_of_lt (Int.pow_pos (by decide)))]
    simp only [fairleadref02_Lay.l0, w, w2]
    clear w w2
    have hl : (List.replicate (d + 1) (0 : Int) ++ pack_bytes n i).length = d + 1 + i := by simp [pack_bytes_length]
    rw [if_pos (by omega), if_pos (by omega), if_pos (by rw [hl]; omega), Int.tdiv_eq_ediv_of_nonneg hx0, Int.tmod_eq_emod_of_nonneg hx0, show (n / 256 ^ i) % 256 % 256 = (n / 256 ^ i) % 256 from by omega, Int.toNat_natCast, set_rep, ← pack_bytes_256]
    have e := ih k (i + 1) (by omega) (by omega)
    rw [hq] at e
    rw [show IntKind.u64.wrap (n / 256 ^ i / 256) = n / 256 ^ i / 256 by simp only [IntKind.wrap, IntKind.bits, IntKind.signed]; simp; omega]
    exact e
theorem rlay_is (n size : Int) (hn : 0 ≤ n ∧ n ≤ 18446744073709551615) (k : Nat) (hk : 12 ≤ k) : fairleadref02_Lay.f k n size = some (LAYN n size) := by
  obtain ⟨k, rfl⟩ : ∃ m, k = m + 1 := ⟨k - 1, by omega⟩
  unfold fairleadref02_Lay.f LAYN
  by_cases h1 : size < 1
  · rw [if_pos h1, if_pos (.inl h1)]
    simp only [fairleadref02_Lay.j0, if_true]
  · rw [if_neg h1]
    by_cases h2 : 8 < size
    · rw [if_pos (.inr h2), decide_eq_true (show size > 8 from h2)]
      simp only [fairleadref02_Lay.j0, if_true]
    · rw [if_neg (by omega), decide_eq_false (show ¬ size > 8 from h2)]
      simp only [fairleadref02_Lay.j0]
      rw [if_neg (by decide), if_pos (by omega), if_pos (by omega)]
      obtain ⟨N, rfl⟩ := Int.eq_ofNat_of_zero_le (show 0 ≤ size by omega)
      have e := lay_loop n hn N (by omega) N k 0 (by omega) (by omega)
      simp only [Int.pow_zero, Int.ediv_one, pack_bytes, List.append_nil, Int.ofNat_zero] at e
      simp only [Int.toNat_natCast]
      exact e
theorem rtext_is (t : ByteArray) (k : Nat) (hk : 12 ≤ k) : fairleadref02_Text.f k t = some (LAYT t) := by
  unfold fairleadref02_Text.f LAYT
  by_cases h : (t.size : Int) > 65535
  · rw [if_pos h, if_pos h]
  · rw [if_neg h, if_neg h, u64_id2 (by omega) (by omega), rlay_is _ _ (by omega) k hk, lay2 (by omega) (by omega), Option.bind_some, if_pos (by rw [pack_bytes_length]; omega)]
end Go.Proofs.Ytadglbmghldnfaa.Pure
