/- Layer 4 (data), plain: numbers and their bytes. -/
import Derived.Test.YtadglbmghldnfaaDMx0
import Derived.Test.YtadglbmghldnfaaDMx5
import Derived.Test.YtadglbmghldnfaaDAid
import Derived.Test.YtadglbmghldnfaaDL04a
namespace Go.Proofs.Ytadglbmghldnfaa.Pure
open Go Go.RowKit Go.Proofs.Ytadglbmghldnfaa.M Go.Proofs.Ytadglbmghldnfaa.Aid Go.Proofs.YtadglbmghldnfaaW.PrintWords Go.Proofs.YtadglbmghldnfaaW.PrintLast Go.Proofs.YtadglbmghldnfaaW.PrintMore
set_option linter.unusedVariables false
set_option linter.unusedSimpArgs false
-- NEEDS data_laid.f data_Halves.f
-- IMPORT L04a
def numL : List Int → Int
  | [] => 0
  | x :: r => x + 256 * numL r
theorem numL_in (l : List Int) (h : ∀ x ∈ l, 0 ≤ x ∧ x ≤ 255) : 0 ≤ numL l ∧ numL l < 256 ^ l.length := by
  induction l with
  | nil => simp [numL]
  | cons x r ih =>
    have h1 := h x (by simp)
    have h2 := ih (fun y hy => h y (by simp [hy]))
    simp only [numL, List.length_cons, Int.pow_succ]
    generalize (256 : Int) ^ r.length = p at h2 ⊢
    omega
theorem numL_7 (l : List Int) (h : ∀ x ∈ l, 0 ≤ x ∧ x ≤ 255) (hl : l.length ≤ 7) : 0 ≤ numL l ∧ numL l < 72057594037927936 := by
  have h1 := numL_in l h
  generalize l.length = n at h1 hl
  have : n = 0 ∨ n = 1 ∨ n = 2 ∨ n = 3 ∨ n = 4 ∨ n = 5 ∨ n = 6 ∨ n = 7 := by omega
  rcases this with rfl | rfl | rfl | rfl | rfl | rfl | rfl | rfl <;> omega
theorem num_b4 {x : Int} (hx : 0 ≤ x ∧ x ≤ 4294967295) : numL (b4 x) = x := by
  simp only [numL, b4]
  omega
end Go.Proofs.Ytadglbmghldnfaa.Pure
