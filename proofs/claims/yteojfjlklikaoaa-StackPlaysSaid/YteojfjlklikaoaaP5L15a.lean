/- Layer 15 (stack), plain: small programs, run step by step. -/
import Derived.Test.YteojfjlklikaoaaP5Mx0
import Derived.Test.YteojfjlklikaoaaP5Mx3
import Derived.Test.YteojfjlklikaoaaP5Mx4
import Derived.Test.YteojfjlklikaoaaP5Mx5
import Derived.Test.YteojfjlklikaoaaP5Aid
import Derived.Test.YteojfjlklikaoaaP5L00
import Derived.Test.YteojfjlklikaoaaP5L03k
import Derived.Test.YteojfjlklikaoaaP5L05
import Derived.Test.YteojfjlklikaoaaP5L05b
import Derived.Test.YteojfjlklikaoaaP5L04a
import Derived.Test.YteojfjlklikaoaaP5L04p
import Derived.Test.YteojfjlklikaoaaP5L06
namespace Go.Proofs.Yteojfjlklikaoaa.Pure
open Go Go.RowKit Go.Proofs.Yteojfjlklikaoaa.M Go.Proofs.Yteojfjlklikaoaa.Aid Go.Proofs.YteojfjlklikaoaaW.PrintWords Go.Proofs.YteojfjlklikaoaaW.PrintLast Go.Proofs.YteojfjlklikaoaaW.PrintMore
set_option linter.unusedVariables false
set_option linter.unusedSimpArgs false
-- NEEDS vm_play.f vm_step.f vm_moves.f vm_Run.f vm_MV vm_ST vm_RK vm_HL VmS check_Check.f data_Load.f data_laid.f data_Halves.f
-- IMPORT L00
-- IMPORT L03k
-- IMPORT L05
-- IMPORT L05b
-- IMPORT L04a
-- IMPORT L04p
-- IMPORT L06
theorem st_moves (k : Nat) (c jt jf K d0 d1 d2 d3 d4 d5 d6 d7 d8 : Int) (s s' : VmS) (hc : (c == 32) = false) (h : vm_MV c K s = some (true, s')) : vm_step.f k c jt jf K d0 d1 d2 d3 d4 d5 d6 d7 d8 s = some (0, s') := by
  unfold vm_step.f vm_moves.f
  rw [hc, if_neg (by decide), h]
  rfl
theorem st_other (k : Nat) (c jt jf K d0 d1 d2 d3 d4 d5 d6 d7 d8 : Int) (s : VmS) (hc : (c == 32) = false) (h : vm_MV c K s = some (false, s)) (hx : 0 ≤ s.x) (hK : 0 ≤ K ∧ K ≤ 4294967295) : vm_step.f k c jt jf K d0 d1 d2 d3 d4 d5 d6 d7 d8 s = some (vm_ST c jt jf K s) := by
  unfold vm_step.f vm_moves.f
  rw [hc, if_neg (by decide), h, Option.bind_some, if_neg (by simp), if_pos ⟨hx, hK.1, hK.2⟩]
theorem st_load (k : Nat) (hk : 7 ≤ k) (jt jf K d0 d1 d2 d3 d4 d5 d6 d7 d8 : Int) (s : VmS) (h : (0 ≤ K ∧ K ≤ 4294967295) ∧ K % 4 = 0 ∧ K < 64) : vm_step.f k 32 jt jf K d0 d1 d2 d3 d4 d5 d6 d7 d8 s = some (0, { s with a := rd (WS d0 d1 d2 d3 d4 d5 d6 d7 d8) (K / 4) }) := by
  have hl := load_is d0 d1 d2 d3 d4 d5 d6 d7 d8 K h.1 k hk
  rw [if_pos h.2] at hl
  unfold vm_step.f vm_moves.f
  rw [if_pos (by decide), hl]
  rfl
theorem l0_go (k : Nat) (l : List S53) (d0 d1 d2 d3 d4 d5 d6 d7 d8 i : Int) (s : VmS) (L : List Int) (q : Int) (s' : VmS) (x : S53) (hx : rd_T53 l i = x) (ho : s.o = false) (hi : 0 ≤ i ∧ i < (l.length : Int) ∧ L.length < 1000000000) (h : vm_step.f k x.f0 x.f1 x.f2 x.f3 d0 d1 d2 d3 d4 d5 d6 d7 d8 s = some (q, s')) (j : Int) (hj : wrap64 (wrap64 (i + q) + 1) = j) :
    vm_play.l0 (k + 1) l d0 d1 d2 d3 d4 d5 d6 d7 d8 i s L = vm_play.l0 k l d0 d1 d2 d3 d4 d5 d6 d7 d8 j s' (L ++ [i]) := by
  rw [vm_play.l0.eq_2, if_neg (by rw [ho]; decide), if_pos hi, hx, h, Option.bind_some, hj]
theorem l0_end (k : Nat) (l : List S53) (d0 d1 d2 d3 d4 d5 d6 d7 d8 i : Int) (s : VmS) (L : List Int) (ho : s.o = true) : vm_play.l0 (k + 1) l d0 d1 d2 d3 d4 d5 d6 d7 d8 i s L = some (s.r, L) := by
  rw [vm_play.l0.eq_2, if_pos ho]
theorem run_small (k : Nat) (hk : 5000 ≤ k) (l : List S53) (ho : ∀ x ∈ l, InsOk x) (hc : (CH l).1 = 0) (d0 d1 d2 d3 d4 d5 d6 d7 d8 ans : Int) (P : List Int) (h : vm_play.l0 k l d0 d1 d2 d3 d4 d5 d6 d7 d8 0 S0 [] = some (ans, P)) : vm_Run.f k l d0 d1 d2 d3 d4 d5 d6 d7 d8 = some (ans, (P.length : Int), 0) := by
  apply run_of
  unfold vm_play.f
  rw [check_is l ho k (by omega), Option.bind_some, if_pos hc]
  show (vm_play.l0 k l d0 d1 d2 d3 d4 d5 d6 d7 d8 0 S0 []).bind _ = _
  rw [h]
  rfl
theorem wr (i : Int) (h : 0 ≤ i ∧ i ≤ 1000) (q : Int) (hq : 0 ≤ q ∧ q ≤ 1000) : wrap64 (wrap64 (i + q) + 1) = i + q + 1 := by rw [w64_id (x := i + q) (by omega) (by omega), w64_id (by omega) (by omega)]
end Go.Proofs.Yteojfjlklikaoaa.Pure
