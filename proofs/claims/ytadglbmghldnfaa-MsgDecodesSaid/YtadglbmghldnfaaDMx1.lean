-- Laid by a program (wip/tools/myprint.py) out of the loaded program's own print: for each Go function a Lean function and the proof of its contract.
import Derived.Test.YtadglbmghldnfaaDMx0
namespace Go.Proofs.Ytadglbmghldnfaa.M
open Go.RowKit Go.Proofs.YtadglbmghldnfaaW.PrintWords Go.Proofs.YtadglbmghldnfaaW.PrintLast Go.Proofs.YtadglbmghldnfaaW.PrintMore
attribute [local go_sem] max2_int min2_int max_two min_two max_three min_three max_four min_four   -- for this text's walks alone
set_option linter.unusedVariables false
set_option linter.unusedSimpArgs false
theorem eqA24 (d : Nat) (w : World) (x0 y0 : Int) (x1 y1 : Int) (x2 y2 : Int) (x3 y3 : Int) (x4 y4 : Int) (x5 y5 : Int) :
    (Op.equalIn (d + 2) 24 (.agg #[.int .u64 x0, .int .u64 x1, .int .u64 x2, .int .u64 x3, .int .u64 x4, .int .u64 x5]) (.agg #[.int .u64 y0, .int .u64 y1, .int .u64 y2, .int .u64 y3, .int .u64 y4, .int .u64 y5])).run Try.prog w = .ok (x0 == y0 && (x1 == y1 && (x2 == y2 && (x3 == y3 && (x4 == y4 && (x5 == y5)))))) w := by
  refine Mine.eqArr_of Try.underlying24 (by kernel_rfl) (by kernel_rfl) rfl ?_
  refine Mine.eqi_cons (Mine.part_one Try.underlying22 _ _ _ _ rfl) (Mine.part_one Try.underlying22 _ _ _ _ rfl) (by go_simp) ?_
  refine Mine.eqi_cons (Mine.part_one Try.underlying22 _ _ _ _ rfl) (Mine.part_one Try.underlying22 _ _ _ _ rfl) (by go_simp) ?_
  refine Mine.eqi_cons (Mine.part_one Try.underlying22 _ _ _ _ rfl) (Mine.part_one Try.underlying22 _ _ _ _ rfl) (by go_simp) ?_
  refine Mine.eqi_cons (Mine.part_one Try.underlying22 _ _ _ _ rfl) (Mine.part_one Try.underlying22 _ _ _ _ rfl) (by go_simp) ?_
  refine Mine.eqi_cons (Mine.part_one Try.underlying22 _ _ _ _ rfl) (Mine.part_one Try.underlying22 _ _ _ _ rfl) (by go_simp) ?_
  exact Mine.eqi_last (Mine.part_one Try.underlying22 _ _ _ _ rfl) (Mine.part_one Try.underlying22 _ _ _ _ rfl) (by go_simp)
theorem eqA26 (d : Nat) (w : World) (x0 y0 : Int) (x1 y1 : Int) (x2 y2 : Int) (x3 y3 : Int) (x4 y4 : Int) (x5 y5 : Int) (x6 y6 : Int) (x7 y7 : Int) (x8 y8 : Int) :
    (Op.equalIn (d + 3) 26 (.agg #[.int .u32 x0, .int .u32 x1, .int .u64 x2, .int .u64 x3, .int .u64 x4, .int .u64 x5, .int .u64 x6, .int .u64 x7, .int .u64 x8]) (.agg #[.int .u32 y0, .int .u32 y1, .int .u64 y2, .int .u64 y3, .int .u64 y4, .int .u64 y5, .int .u64 y6, .int .u64 y7, .int .u64 y8])).run Try.prog w = .ok (x0 == y0 && (x1 == y1 && (x2 == y2 && ((x3 == y3 && (x4 == y4 && (x5 == y5 && (x6 == y6 && (x7 == y7 && (x8 == y8)))))))))) w := by
  refine eqA_of Try.underlying26 (by kernel_rfl) ?_
  refine eqf_cons (by rfl) (by go_simp; rfl) (by go_simp; rfl) (by go_simp) ?_
  refine eqf_cons (by rfl) (by go_simp; rfl) (by go_simp; rfl) (by go_simp) ?_
  refine eqf_cons (by rfl) (by go_simp; rfl) (by go_simp; rfl) (by go_simp) ?_
  exact eqf_last (by rfl) (by go_simp) (by go_simp) (eqA24 (d + 0) w _ _ _ _ _ _ _ _ _ _ _ _)
end Go.Proofs.Ytadglbmghldnfaa.M
