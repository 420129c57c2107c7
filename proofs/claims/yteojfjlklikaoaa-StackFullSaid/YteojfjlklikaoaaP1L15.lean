/- Layer 15 (stack), plain: what the filters answer, and which answer is the stack's. -/
import Derived.Test.YteojfjlklikaoaaP1Mx0
import Derived.Test.YteojfjlklikaoaaP1Mx3
import Derived.Test.YteojfjlklikaoaaP1Mx5
import Derived.Test.YteojfjlklikaoaaP1Mx6
import Derived.Test.YteojfjlklikaoaaP1Mx13
import Derived.Test.YteojfjlklikaoaaP1Aid
import Derived.OpenShut
import Derived.Test.YteojfjlklikaoaaP1L00
import Derived.Test.YteojfjlklikaoaaP1L03k
import Derived.Test.YteojfjlklikaoaaP1L05
import Derived.Test.YteojfjlklikaoaaP1L05b
import Derived.Test.YteojfjlklikaoaaP1L04a
import Derived.Test.YteojfjlklikaoaaP1Mx4
import Derived.Test.YteojfjlklikaoaaP1L06
import Derived.Test.YteojfjlklikaoaaP1Mx12
import Derived.Test.YteojfjlklikaoaaP1L15a
import Derived.Test.YteojfjlklikaoaaP1L15b
namespace Go.Proofs.Yteojfjlklikaoaa.Pure
open Go Go.RowKit Go.Proofs.Yteojfjlklikaoaa.M Go.Proofs.Yteojfjlklikaoaa.Aid Go.Proofs.YteojfjlklikaoaaW.PrintWords Go.Proofs.YteojfjlklikaoaaW.PrintLast Go.Proofs.YteojfjlklikaoaaW.PrintMore
set_option linter.unusedVariables false
set_option linter.unusedSimpArgs false
-- NEEDS check_Check.f fairleadref05_Check.f vm_Run.f fairleadref06_Run.f act_Most.f act_Of.f fairleadref07_Of.f fairleadref07_Most.f fairleadlaw15_few.f fairleadlaw15_awake.P BUILT ATT stVals stFind vm_play.f vm_step.f vm_MV vm_ST VmS fit_built
-- LIB Derived.OpenShut
-- IMPORT L00
-- IMPORT L03k
-- IMPORT L05
-- IMPORT L05b
-- IMPORT L04a
-- IMPORT L04p
-- IMPORT L06
-- IMPORT L06r
-- IMPORT L06s
-- IMPORT L15a
-- IMPORT L15b
/-- What awake asks. -/
theorem awake15 : ∃ K, ∀ k, K ≤ k → fairleadlaw15_awake.P k := by
  obtain ⟨K, hK⟩ := most_ev [327681, 2147418112] (by intro x hx; simp only [List.mem_cons, List.not_mem_nil, or_false] at hx; rcases hx with rfl | rfl <;> decide) (by decide)
  have hm : MST [327681, 2147418112] = 327681 := by decide
  rw [hm] at hK
  have oa : ∀ x ∈ [w15a], InsOk x := by intro x hx; rw [List.mem_singleton.1 hx]; unfold InsOk; simp
  have ob : ∀ x ∈ [w15b], InsOk x := by intro x hx; rw [List.mem_singleton.1 hx]; unfold InsOk; simp
  have ca : CH [w15a] = (0, -1) := by decide
  have cb : CH [w15b] = (0, -1) := by decide
  refine ⟨K + 6000, fun k hk => ⟨(check_is _ oa k (by omega)).trans (by rw [ca]), (check_is _ ob k (by omega)).trans (by rw [cb]), ?_, ?_, hK k (by omega)⟩⟩
  · obtain ⟨k, rfl⟩ : ∃ m, k = m + 2 := ⟨k - 2, by omega⟩
    refine ⟨_, _, run_small (k + 2) (by omega) _ oa (by rw [ca]) 0 0 0 0 0 0 0 0 0 2147418112 [0] ?_⟩
    refine (l0_go (k + 1) _ 0 0 0 0 0 0 0 0 0 0 S0 [] 0 { S0 with o := true, r := 2147418112 } w15a rfl rfl ⟨by decide, by decide, by decide⟩ (st_moves (k + 1) 6 0 0 2147418112 0 0 0 0 0 0 0 0 0 _ _ rfl rfl) 1 (wr 0 (by decide) 0 (by decide))).trans ?_
    exact l0_end _ _ _ _ _ _ _ _ _ _ _ _ _ _ rfl
  · obtain ⟨k, rfl⟩ : ∃ m, k = m + 2 := ⟨k - 2, by omega⟩
    refine ⟨_, _, run_small (k + 2) (by omega) _ ob (by rw [cb]) 0 0 0 0 0 0 0 0 0 327681 [0] ?_⟩
    refine (l0_go (k + 1) _ 0 0 0 0 0 0 0 0 0 0 S0 [] 0 { S0 with o := true, r := 327681 } w15b rfl rfl ⟨by decide, by decide, by decide⟩ (st_moves (k + 1) 6 0 0 327681 0 0 0 0 0 0 0 0 0 _ _ rfl rfl) 1 (wr 0 (by decide) 0 (by decide))).trans ?_
    exact l0_end _ _ _ _ _ _ _ _ _ _ _ _ _ _ rfl
end Go.Proofs.Yteojfjlklikaoaa.Pure
