-- Laid by a program (wip/tools/myprint.py) out of the loaded program's own print: for each Go function a Lean function and the proof of its contract.
import Derived.Test.YtadglbmghldnfaaDMx0
namespace Go.Proofs.Ytadglbmghldnfaa.M
open Go.RowKit Go.Proofs.YtadglbmghldnfaaW.PrintWords Go.Proofs.YtadglbmghldnfaaW.PrintLast Go.Proofs.YtadglbmghldnfaaW.PrintMore
attribute [local go_sem] max2_int min2_int max_two min_two max_three min_three max_four min_four   -- for this text's walks alone
set_option linter.unusedVariables false
set_option linter.unusedSimpArgs false
theorem eqA68 (d : Nat) (w : World) (x0 y0 : Int) (x1 y1 : Int) (x2 y2 : Int) (x3 y3 : Int) (x4 y4 : Int) (x5 y5 : Int) (x6 y6 : Int) (x7 y7 : Int) (x8 y8 : Int) (x9 y9 : Int) (x10 y10 : Int) (x11 y11 : Int) (x12 y12 : Int) (x13 y13 : Int) (x14 y14 : Int) (x15 y15 : Int) :
    (Op.equalIn (d + 2) 68 (.agg #[.int .u32 x0, .int .u32 x1, .int .u32 x2, .int .u32 x3, .int .u32 x4, .int .u32 x5, .int .u32 x6, .int .u32 x7, .int .u32 x8, .int .u32 x9, .int .u32 x10, .int .u32 x11, .int .u32 x12, .int .u32 x13, .int .u32 x14, .int .u32 x15]) (.agg #[.int .u32 y0, .int .u32 y1, .int .u32 y2, .int .u32 y3, .int .u32 y4, .int .u32 y5, .int .u32 y6, .int .u32 y7, .int .u32 y8, .int .u32 y9, .int .u32 y10, .int .u32 y11, .int .u32 y12, .int .u32 y13, .int .u32 y14, .int .u32 y15])).run Try.prog w = .ok (x0 == y0 && (x1 == y1 && (x2 == y2 && (x3 == y3 && (x4 == y4 && (x5 == y5 && (x6 == y6 && (x7 == y7 && (x8 == y8 && (x9 == y9 && (x10 == y10 && (x11 == y11 && (x12 == y12 && (x13 == y13 && (x14 == y14 && (x15 == y15)))))))))))))))) w := by
  refine Mine.eqArr_of Try.underlying68 (by kernel_rfl) (by kernel_rfl) rfl ?_
  refine Mine.eqi_cons (Mine.part_one Try.underlying23 _ _ _ _ rfl) (Mine.part_one Try.underlying23 _ _ _ _ rfl) (by go_simp) ?_
  refine Mine.eqi_cons (Mine.part_one Try.underlying23 _ _ _ _ rfl) (Mine.part_one Try.underlying23 _ _ _ _ rfl) (by go_simp) ?_
  refine Mine.eqi_cons (Mine.part_one Try.underlying23 _ _ _ _ rfl) (Mine.part_one Try.underlying23 _ _ _ _ rfl) (by go_simp) ?_
  refine Mine.eqi_cons (Mine.part_one Try.underlying23 _ _ _ _ rfl) (Mine.part_one Try.underlying23 _ _ _ _ rfl) (by go_simp) ?_
  refine Mine.eqi_cons (Mine.part_one Try.underlying23 _ _ _ _ rfl) (Mine.part_one Try.underlying23 _ _ _ _ rfl) (by go_simp) ?_
  refine Mine.eqi_cons (Mine.part_one Try.underlying23 _ _ _ _ rfl) (Mine.part_one Try.underlying23 _ _ _ _ rfl) (by go_simp) ?_
  refine Mine.eqi_cons (Mine.part_one Try.underlying23 _ _ _ _ rfl) (Mine.part_one Try.underlying23 _ _ _ _ rfl) (by go_simp) ?_
  refine Mine.eqi_cons (Mine.part_one Try.underlying23 _ _ _ _ rfl) (Mine.part_one Try.underlying23 _ _ _ _ rfl) (by go_simp) ?_
  refine Mine.eqi_cons (Mine.part_one Try.underlying23 _ _ _ _ rfl) (Mine.part_one Try.underlying23 _ _ _ _ rfl) (by go_simp) ?_
  refine Mine.eqi_cons (Mine.part_one Try.underlying23 _ _ _ _ rfl) (Mine.part_one Try.underlying23 _ _ _ _ rfl) (by go_simp) ?_
  refine Mine.eqi_cons (Mine.part_one Try.underlying23 _ _ _ _ rfl) (Mine.part_one Try.underlying23 _ _ _ _ rfl) (by go_simp) ?_
  refine Mine.eqi_cons (Mine.part_one Try.underlying23 _ _ _ _ rfl) (Mine.part_one Try.underlying23 _ _ _ _ rfl) (by go_simp) ?_
  refine Mine.eqi_cons (Mine.part_one Try.underlying23 _ _ _ _ rfl) (Mine.part_one Try.underlying23 _ _ _ _ rfl) (by go_simp) ?_
  refine Mine.eqi_cons (Mine.part_one Try.underlying23 _ _ _ _ rfl) (Mine.part_one Try.underlying23 _ _ _ _ rfl) (by go_simp) ?_
  refine Mine.eqi_cons (Mine.part_one Try.underlying23 _ _ _ _ rfl) (Mine.part_one Try.underlying23 _ _ _ _ rfl) (by go_simp) ?_
  exact Mine.eqi_last (Mine.part_one Try.underlying23 _ _ _ _ rfl) (Mine.part_one Try.underlying23 _ _ _ _ rfl) (by go_simp)
end Go.Proofs.Ytadglbmghldnfaa.M
