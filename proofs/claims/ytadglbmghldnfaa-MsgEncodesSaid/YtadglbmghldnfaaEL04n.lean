/- Layer 4 (data), plain: numbers and their bytes. -/
import Derived.Test.YtadglbmghldnfaaEMx0
import Derived.Test.YtadglbmghldnfaaEMx5
import Derived.Test.YtadglbmghldnfaaEAid
import Derived.Test.YtadglbmghldnfaaEL04a
namespace Go.Proofs.Ytadglbmghldnfaa.Pure
open Go Go.RowKit Go.Proofs.Ytadglbmghldnfaa.M Go.Proofs.Ytadglbmghldnfaa.Aid Go.Proofs.YtadglbmghldnfaaW.PrintWords Go.Proofs.YtadglbmghldnfaaW.PrintLast Go.Proofs.YtadglbmghldnfaaW.PrintMore
set_option linter.unusedVariables false
set_option linter.unusedSimpArgs false
-- NEEDS data_laid.f data_Halves.f
-- IMPORT L04a
def lowL : Nat → Int → List Int
  | 0, _ => []
  | n + 1, x => x % 256 :: lowL n (x / 256)
theorem lowL_len (n : Nat) : ∀ x, (lowL n x).length = n := by
  induction n with
  | zero => intro x; rfl
  | succ n ih => intro x; simp only [lowL, List.length_cons, ih]
theorem low4 {x : Int} (hx : 0 ≤ x ∧ x ≤ 4294967295) : lowL 4 x = b4 x := by
  simp only [lowL, b4, List.cons.injEq, and_true, true_and]
  omega
theorem low8 {x : Int} (hx : 0 ≤ x ∧ x ≤ 18446744073709551615) : lowL 8 x = b4 (lo x) ++ b4 (hi x) := by
  simp only [lowL, b4, lo, hi, List.cons_append, List.nil_append, List.cons.injEq, and_true]
  omega
def numL : List Int → Int
  | [] => 0
  | x :: r => x + 256 * numL r
theorem numL_in (l : List Int) (h : ∀ x ∈ l, 0 ≤ x ∧ x ≤ 255) : 0 ≤ numL l ∧ numL l < 256 ^ l.length := by
  induction l with
  | nil => simp [numL]
  | cons x r ih =>
    have h1 := h x (by simp)
    have h2 := ih (fun y hy => h y (by simp [hy]))
    simp only [numL, List.length_cons, Int.pow_succ]
    generalize (256 : Int) ^ r.length = p at h2 ⊢
    omega
theorem num_b4 {x : Int} (hx : 0 ≤ x ∧ x ≤ 4294967295) : numL (b4 x) = x := by
  simp only [numL, b4]
  omega
end Go.Proofs.Ytadglbmghldnfaa.Pure
