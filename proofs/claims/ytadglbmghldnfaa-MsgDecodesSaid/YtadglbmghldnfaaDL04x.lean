/- Layer 4 (data), plain: the call of 64 bytes, by the document. -/
import Derived.Test.YtadglbmghldnfaaDMx0
import Derived.Test.YtadglbmghldnfaaDMx5
import Derived.Test.YtadglbmghldnfaaDMx7
import Derived.Test.YtadglbmghldnfaaDMx8
import Derived.Test.YtadglbmghldnfaaDMx17
import Derived.Test.YtadglbmghldnfaaDMx18
import Derived.Test.YtadglbmghldnfaaDAid
import Derived.Test.YtadglbmghldnfaaDL04o
import Derived.Test.YtadglbmghldnfaaDL04m
namespace Go.Proofs.Ytadglbmghldnfaa.Pure
open Go Go.RowKit Go.Proofs.Ytadglbmghldnfaa.M Go.Proofs.Ytadglbmghldnfaa.Aid Go.Proofs.YtadglbmghldnfaaW.PrintWords Go.Proofs.YtadglbmghldnfaaW.PrintLast Go.Proofs.YtadglbmghldnfaaW.PrintMore
set_option linter.unusedVariables false
set_option linter.unusedSimpArgs false
-- NEEDS data_laid.f data_Halves.f data_Bytes.f fairleadref04_number.f data_Of.f data_joined.f fairleadref04_Of.f
-- IMPORT L04o
-- IMPORT L04m
theorem num_cut (l : List Int) (hb : ∀ x ∈ l, 0 ≤ x ∧ x ≤ 255) (a n : Nat) (hn : n ≤ 8) (k : Nat) (hk : 9 ≤ k) : fairleadref04_number.f k ((l.take (a + n)).drop a) = some (numL ((l.drop a).take n)) := by
  rw [List.drop_take, Nat.add_sub_cancel_left]
  exact num_is _ (fun x hx => hb x (List.mem_of_mem_drop (List.mem_of_mem_take hx))) (by rw [List.length_take]; omega) k hk
theorem rof_is (l : List Int) (hb : ∀ x ∈ l, 0 ≤ x ∧ x ≤ 255) (k : Nat) (hk : 9 ≤ k) : fairleadref04_Of.f (k + 7) l = some (DOF l) := by
  have w0 := wd_in l hb 0
  have w1 := wd_in l hb 1
  unfold fairleadref04_Of.f DOF
  by_cases h1 : l.length < 64
  · rw [if_pos (by omega), if_pos h1]
  · rw [if_neg (by omega), if_neg h1]
    by_cases h2 : 64 < l.length
    · rw [if_pos (by omega), if_pos h2]
    · rw [if_neg (by omega), if_neg h2]
      have hl : l.length = 64 := by omega
      have n0 : ∀ k, 9 ≤ k → fairleadref04_number.f k (l.take 4) = some (wd l 0) := fun k hk => by
        have := num_cut l hb 0 4 (by decide) k hk
        exact this
      have n1 : ∀ k, 9 ≤ k → fairleadref04_number.f k ((l.take 8).drop 4) = some (wd l 1) := fun k hk => num_cut l hb 4 4 (by decide) k hk
      have q1 : ∀ k, 9 ≤ k → fairleadref04_number.f k ((l.take 16).drop 8) = some (qd l 1) := fun k hk => num_cut l hb 8 8 (by decide) k hk
      have q2 : ∀ k, 9 ≤ k → fairleadref04_number.f k ((l.take 24).drop 16) = some (qd l 2) := fun k hk => num_cut l hb 16 8 (by decide) k hk
      have q3 : ∀ k, 9 ≤ k → fairleadref04_number.f k ((l.take 32).drop 24) = some (qd l 3) := fun k hk => num_cut l hb 24 8 (by decide) k hk
      have q4 : ∀ k, 9 ≤ k → fairleadref04_number.f k ((l.take 40).drop 32) = some (qd l 4) := fun k hk => num_cut l hb 32 8 (by decide) k hk
      have q5 : ∀ k, 9 ≤ k → fairleadref04_number.f k ((l.take 48).drop 40) = some (qd l 5) := fun k hk => num_cut l hb 40 8 (by decide) k hk
      have q6 : ∀ k, 9 ≤ k → fairleadref04_number.f k ((l.take 56).drop 48) = some (qd l 6) := fun k hk => num_cut l hb 48 8 (by decide) k hk
      have q7 : ∀ k, 9 ≤ k → fairleadref04_number.f k ((l.take 64).drop 56) = some (qd l 7) := fun k hk => num_cut l hb 56 8 (by decide) k hk
      rw [if_pos (by omega), n0 _ (by omega), Option.bind_some, if_pos (by decide), if_pos (by omega), n1 _ (by omega), Option.bind_some, if_pos (by decide), if_pos (by omega), q1 _ (by omega), Option.bind_some]
      rw [show (wd l 0) % 4294967296 = wd l 0 by omega, show (wd l 1) % 4294967296 = wd l 1 by omega]
      rw [fairleadref04_Of.l0.eq_2, if_pos (by decide), if_pos rfl, if_pos (by decide), if_pos (by omega), q2 _ (by omega), Option.bind_some]
      rw [fairleadref04_Of.l0.eq_2, if_pos (by decide), if_neg (by decide), if_pos rfl, if_pos (by decide), if_pos (by omega), q3 _ (by omega), Option.bind_some]
      rw [fairleadref04_Of.l0.eq_2, if_pos (by decide), if_neg (by decide), if_neg (by decide), if_pos rfl, if_pos (by decide), if_pos (by omega), q4 _ (by omega), Option.bind_some]
      rw [fairleadref04_Of.l0.eq_2, if_pos (by decide), if_neg (by decide), if_neg (by decide), if_neg (by decide), if_pos rfl, if_pos (by decide), if_pos (by omega), q5 _ (by omega), Option.bind_some]
      rw [fairleadref04_Of.l0.eq_2, if_pos (by decide), if_neg (by decide), if_neg (by decide), if_neg (by decide), if_neg (by decide), if_pos rfl, if_pos (by decide), if_pos (by omega), q6 _ (by omega), Option.bind_some]
      rw [fairleadref04_Of.l0.eq_2, if_pos (by decide), if_neg (by decide), if_neg (by decide), if_neg (by decide), if_neg (by decide), if_neg (by decide), if_pos rfl, if_pos (by decide), if_pos (by omega), q7 _ (by omega), Option.bind_some]
      rw [fairleadref04_Of.l0.eq_2, if_neg (by decide)]
      rfl
end Go.Proofs.Ytadglbmghldnfaa.Pure
