/- Layer 4 (data), plain: a call's bytes. -/
import Derived.Test.YtadglbmghldnfaaDMx0
import Derived.Test.YtadglbmghldnfaaDMx5
import Derived.Test.YtadglbmghldnfaaDAid
import Derived.Test.YtadglbmghldnfaaDL04a
namespace Go.Proofs.Ytadglbmghldnfaa.Pure
open Go Go.RowKit Go.Proofs.Ytadglbmghldnfaa.M Go.Proofs.Ytadglbmghldnfaa.Aid Go.Proofs.YtadglbmghldnfaaW.PrintWords Go.Proofs.YtadglbmghldnfaaW.PrintLast Go.Proofs.YtadglbmghldnfaaW.PrintMore
set_option linter.unusedVariables false
set_option linter.unusedSimpArgs false
-- NEEDS data_laid.f data_Halves.f data_Bytes.f
-- IMPORT L04a
theorem bytes_loop (y0 y1 y2 y3 y4 y5 y6 y7 y8 y9 y10 y11 y12 y13 y14 y15 : Int) (xs : List Int) (hx : xs = [y0, y1, y2, y3, y4, y5, y6, y7, y8, y9, y10, y11, y12, y13, y14, y15]) (d : Nat) : ∀ (k i : Nat) (out : List Int), i + d = 16 → d < k → out.length + 4 * d ≤ 1000 →
    data_Bytes.l0 k out i y0 y1 y2 y3 y4 y5 y6 y7 y8 y9 y10 y11 y12 y13 y14 y15 = some (out ++ (xs.drop i).flatMap b4) := by
  have hl : xs.length = 16 := by rw [hx]; rfl
  induction d with
  | zero =>
    intro k i out hi hk _
    obtain ⟨k, rfl⟩ : ∃ m, k = m + 1 := ⟨k - 1, by omega⟩
    simp only [data_Bytes.l0]
    rw [if_neg (by omega), List.drop_of_length_le (by omega)]
    simp
  | succ d ih =>
    intro k i out hi hk ho
    obtain ⟨k, rfl⟩ : ∃ m, k = m + 1 := ⟨k - 1, by omega⟩
    have w : wrap64 ((i : Int) + 1) = ((i + 1 : Nat) : Int) := by unfold wrap64; omega
    simp only [data_Bytes.l0, w, ← hx, Option.bind_some]
    clear w
    have hb : (b4 (rd xs i)).length = 4 := rfl
    rw [if_pos (by omega), if_pos (by omega)]
    have := ih k (i + 1) (out ++ b4 (rd xs i)) (by omega) (by omega) (by rw [List.length_append, hb]; omega)
    rw [List.append_assoc, ← List.flatMap_cons, ← drop_rdI xs i (by omega)] at this
    rw [if_pos (by show out.length + 4 < _; omega)]
    exact this
theorem bytes_is (a0 a1 a2 a3 a4 a5 a6 a7 a8 : Int) (k : Nat) (hk : 20 ≤ k) : data_Bytes.f k a0 a1 a2 a3 a4 a5 a6 a7 a8 = some ((WS a0 a1 a2 a3 a4 a5 a6 a7 a8).flatMap b4) := by
  unfold data_Bytes.f
  rw [if_pos (by decide), laid_is _ _ _ _ _ _ _ _ _ k (by omega)]
  simp only [Option.bind_some]
  exact bytes_loop _ _ _ _ _ _ _ _ _ _ _ _ _ _ _ _ (WS a0 a1 a2 a3 a4 a5 a6 a7 a8) rfl 16 k 0 [] (by omega) (by omega) (by simp)
end Go.Proofs.Ytadglbmghldnfaa.Pure
