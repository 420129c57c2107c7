/- What an argument of a law holds, out of the row's own reading: for each type a lemma 'Opens': data of that type are cells of its kind, with the bounds of their numbers. -/
import Derived.Test.YteojfjlklikaoaaP1WWords
import Derived.OpenShut
import Derived.ChangeArms
import Derived.Deep.Slices
set_option linter.unusedVariables false
set_option linter.unusedSimpArgs false
namespace Go.Proofs.Yteojfjlklikaoaa.Opn
open Go Go.ChangeShapes Go.WideShapes Go.Proofs.YteojfjlklikaoaaW.PrintWords
theorem wfb_i64 {n : Int} (h : (Lit.int .i64 n).wf = true) : (-9223372036854775808) ≤ n ∧ n ≤ 9223372036854775807 := by
  simp [Lit.wf, IntKind.min, IntKind.max, IntKind.signed, IntKind.bits] at h
  omega
end Go.Proofs.Yteojfjlklikaoaa.Opn
