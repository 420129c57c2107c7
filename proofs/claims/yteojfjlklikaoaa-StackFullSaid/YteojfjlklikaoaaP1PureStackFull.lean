/- The law StackFull, as numbers and lists: what the printed functions say of it is true for every input that the row lets in. -/
import Derived.Test.YteojfjlklikaoaaP1Mx19
import Derived.Test.YteojfjlklikaoaaP1Aid
import Derived.Test.YteojfjlklikaoaaP1L15
namespace Go.Proofs.Yteojfjlklikaoaa.Pure
open Go Go.RowKit Go.Proofs.Yteojfjlklikaoaa.M Go.Proofs.Yteojfjlklikaoaa.Aid Go.Proofs.YteojfjlklikaoaaW.PrintWords Go.Proofs.YteojfjlklikaoaaW.PrintLast Go.Proofs.YteojfjlklikaoaaW.PrintMore
set_option linter.unusedVariables false
set_option linter.unusedSimpArgs false
-- IMPORT L15
theorem full_chk (n : Nat) : ∀ i : Int, chkFrom (List.replicate n w15a) i = (0, -1) := by
  induction n with
  | zero => exact fun i => rfl
  | succ n ih =>
    intro i
    rw [List.replicate_succ, chk_pos (ret_ok _ _)]
    exact ih (i + 1)
theorem StackFull : fairleadlaw15_StackFull.Pure := by
  intro a0 _
  obtain ⟨K1, h1⟩ := awake15
  refine ⟨K1 + 7000, ⟨h1 _ (by omega), fun h h' => ⟨-1, ?_⟩⟩, rfl⟩
  rw [check_is _ (fun x hx => by rw [List.eq_of_mem_replicate hx]; unfold InsOk; simp) _ (by omega)]
  unfold CH
  rw [if_neg (by rw [List.length_replicate]; omega), if_neg (by rw [List.length_replicate]; omega), full_chk]
end Go.Proofs.Yteojfjlklikaoaa.Pure
