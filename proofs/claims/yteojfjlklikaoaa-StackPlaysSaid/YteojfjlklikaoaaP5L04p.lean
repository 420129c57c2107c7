/- Layer 4 (data), plain: a call's word. -/
import Derived.Test.YteojfjlklikaoaaP5Mx0
import Derived.Test.YteojfjlklikaoaaP5Mx3
import Derived.Test.YteojfjlklikaoaaP5Mx4
import Derived.Test.YteojfjlklikaoaaP5Aid
import Derived.Test.YteojfjlklikaoaaP5L04a
namespace Go.Proofs.Yteojfjlklikaoaa.Pure
open Go Go.RowKit Go.Proofs.Yteojfjlklikaoaa.M Go.Proofs.Yteojfjlklikaoaa.Aid Go.Proofs.YteojfjlklikaoaaW.PrintWords Go.Proofs.YteojfjlklikaoaaW.PrintLast Go.Proofs.YteojfjlklikaoaaW.PrintMore
set_option linter.unusedVariables false
set_option linter.unusedSimpArgs false
-- NEEDS data_laid.f data_Load.f data_Halves.f
-- IMPORT L04a
theorem load_is (a0 a1 a2 a3 a4 a5 a6 a7 a8 : Int) (p : Int) (hp : 0 ≤ p ∧ p ≤ 4294967295) (k : Nat) (hk : 7 ≤ k) :
    data_Load.f k a0 a1 a2 a3 a4 a5 a6 a7 a8 p = some (if p % 4 = 0 ∧ p < 64 then (rd (WS a0 a1 a2 a3 a4 a5 a6 a7 a8) (p / 4), 0) else (0, 12)) := by
  unfold data_Load.f
  rw [Int.tmod_eq_emod_of_nonneg hp.1, Int.tdiv_eq_ediv_of_nonneg hp.1]
  by_cases h1 : p % 4 = 0
  · rw [if_pos h1]
    by_cases h2 : p ≥ 64
    · rw [if_pos h2, if_neg (by omega)]
    · have e : p / 4 % 4294967296 = p / 4 := by omega
      rw [if_neg h2, laid_is _ _ _ _ _ _ _ _ _ k hk]
      simp only [Option.bind_some, e]
      rw [if_pos (by omega), if_pos (by omega), if_pos ⟨h1, by omega⟩]
      rfl
  · rw [if_neg h1, if_neg (by omega)]
end Go.Proofs.Yteojfjlklikaoaa.Pure
