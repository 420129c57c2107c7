-- Laid by a program (wip/tools/myprint.py) out of the loaded program's own print: for each Go function a Lean function and the proof of its contract.
import Derived.Test.YteojfjlklikaoaaP4Mx0
import Derived.Test.YteojfjlklikaoaaP4Mx7
namespace Go.Proofs.Yteojfjlklikaoaa.M
open Go.RowKit Go.Proofs.YteojfjlklikaoaaW.PrintWords Go.Proofs.YteojfjlklikaoaaW.PrintLast Go.Proofs.YteojfjlklikaoaaW.PrintMore
attribute [local go_sem] max2_int min2_int max_two min_two max_three min_three max_four min_four   -- for this text's walks alone
set_option linter.unusedVariables false
set_option linter.unusedSimpArgs false
mutual
def fairleadref05_wrong.j0 : Nat → Int → Int → Bool → Int → Int → Int → Int → Option (Int)
  | 0, _, _, _, _, _, _, _ => none
  | k + 1, x6, x7, x35, Z0, Z1, Z2, Z3 => if x35 = true then (some 12) else (if Z0 = 96 then (fairleadref05_wrong.j1 k x6 x7 (decide (Z3 ≥ 16)) Z0 Z1 Z2 Z3) else (if Z0 = 97 then (fairleadref05_wrong.j1 k x6 x7 (decide (Z3 ≥ 16)) Z0 Z1 Z2 Z3) else (if Z0 = 2 then (fairleadref05_wrong.j1 k x6 x7 (decide (Z3 ≥ 16)) Z0 Z1 Z2 Z3) else (if Z0 = 3 then (fairleadref05_wrong.j1 k x6 x7 (decide (Z3 ≥ 16)) Z0 Z1 Z2 Z3) else (fairleadref05_wrong.j1 k x6 x7 false Z0 Z1 Z2 Z3)))))
def fairleadref05_wrong.j1 : Nat → Int → Int → Bool → Int → Int → Int → Int → Option (Int)
  | 0, _, _, _, _, _, _, _ => none
  | k + 1, x6, x7, x58, Z0, Z1, Z2, Z3 => if x58 = true then (some 12) else (if Z0 = 52 then (if Z3 = 0 then (fairleadref05_wrong.j2 k x6 x7 true Z0 Z1 Z2 Z3) else (if Z0 = 100 then (fairleadref05_wrong.j2 k x6 x7 (decide (Z3 > 31)) Z0 Z1 Z2 Z3) else (if Z0 = 116 then (fairleadref05_wrong.j2 k x6 x7 (decide (Z3 > 31)) Z0 Z1 Z2 Z3) else (fairleadref05_wrong.j2 k x6 x7 false Z0 Z1 Z2 Z3)))) else (if Z0 = 100 then (fairleadref05_wrong.j2 k x6 x7 (decide (Z3 > 31)) Z0 Z1 Z2 Z3) else (if Z0 = 116 then (fairleadref05_wrong.j2 k x6 x7 (decide (Z3 > 31)) Z0 Z1 Z2 Z3) else (fairleadref05_wrong.j2 k x6 x7 false Z0 Z1 Z2 Z3))))
def fairleadref05_wrong.j2 : Nat → Int → Int → Bool → Int → Int → Int → Int → Option (Int)
  | 0, _, _, _, _, _, _, _ => none
  | k + 1, x6, x7, x81, Z0, Z1, Z2, Z3 => if x81 = true then (some 13) else (if Z0 = 5 then (fairleadref05_wrong.j3 k x6 x7 (decide ((IntKind.u64.wrap (x7 + (IntKind.u64.wrap (Z3)))) ≥ x6)) Z0 Z1 Z2 Z3) else (fairleadref05_wrong.j3 k x6 x7 false Z0 Z1 Z2 Z3))
def fairleadref05_wrong.j3 : Nat → Int → Int → Bool → Int → Int → Int → Int → Option (Int)
  | 0, _, _, _, _, _, _, _ => none
  | k + 1, x6, x7, x93, Z0, Z1, Z2, Z3 => if x93 = true then (some 14) else (if Z0 = 5 then (fairleadref05_wrong.j4 k x6 x7 false Z0 Z1 Z2 Z3) else ((fairleadref03_Jumps.f Z0).bind fun t175 => (if t175 = true then (if (IntKind.u64.wrap (x7 + (IntKind.u64.wrap (Z1)))) ≥ x6 then (fairleadref05_wrong.j4 k x6 x7 true Z0 Z1 Z2 Z3) else (fairleadref05_wrong.j4 k x6 x7 (decide ((IntKind.u64.wrap (x7 + (IntKind.u64.wrap (Z2)))) ≥ x6)) Z0 Z1 Z2 Z3)) else (fairleadref05_wrong.j4 k x6 x7 false Z0 Z1 Z2 Z3))))
def fairleadref05_wrong.j4 : Nat → Int → Int → Bool → Int → Int → Int → Int → Option (Int)
  | 0, _, _, _, _, _, _, _ => none
  | k + 1, x6, x7, x119, Z0, Z1, Z2, Z3 => if x119 = true then (some 14) else (if x7 = x6 then ((fairleadref03_Ends.f Z0).bind fun t176 => (if t176 = true then (some 0) else (some 15))) else (some 0))
end
def fairleadref05_wrong.f (k : Nat) (l0 : List (S53)) (a1 : Int) : Option (Int) := if 0 ≤ a1 then (if a1 < (l0.length : Int) then ((fairleadref03_Known.f k ((rd_T53 l0 a1).f0)).bind fun t174 => (if t174 = true then (if ((rd_T53 l0 a1).f0) = 32 then (if (Int.tmod ((rd_T53 l0 a1).f3) 4) = 0 then (fairleadref05_wrong.j0 k (IntKind.u64.wrap ((l0.length : Int))) (IntKind.u64.wrap ((IntKind.u64.wrap (a1)) + 1)) (decide (((rd_T53 l0 a1).f3) ≥ 64)) ((rd_T53 l0 a1).f0) ((rd_T53 l0 a1).f1) ((rd_T53 l0 a1).f2) ((rd_T53 l0 a1).f3)) else (fairleadref05_wrong.j0 k (IntKind.u64.wrap ((l0.length : Int))) (IntKind.u64.wrap ((IntKind.u64.wrap (a1)) + 1)) true ((rd_T53 l0 a1).f0) ((rd_T53 l0 a1).f1) ((rd_T53 l0 a1).f2) ((rd_T53 l0 a1).f3))) else (fairleadref05_wrong.j0 k (IntKind.u64.wrap ((l0.length : Int))) (IntKind.u64.wrap ((IntKind.u64.wrap (a1)) + 1)) false ((rd_T53 l0 a1).f0) ((rd_T53 l0 a1).f1) ((rd_T53 l0 a1).f2) ((rd_T53 l0 a1).f3))) else (some 11))) else (none)) else (none)
end Go.Proofs.Yteojfjlklikaoaa.M
