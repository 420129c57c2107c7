-- Laid by a program (wip/tools/myprint.py) out of the loaded program's own print: for each Go function a Lean function and the proof of its contract.
import Derived.Test.YtadglbmghldnfaaDMx0
import Derived.Test.YtadglbmghldnfaaDMx17
namespace Go.Proofs.Ytadglbmghldnfaa.M
open Go.RowKit Go.Proofs.YtadglbmghldnfaaW.PrintWords Go.Proofs.YtadglbmghldnfaaW.PrintLast Go.Proofs.YtadglbmghldnfaaW.PrintMore
attribute [local go_sem] max2_int min2_int max_two min_two max_three min_three max_four min_four   -- for this text's walks alone
set_option linter.unusedVariables false
set_option linter.unusedSimpArgs false
def fairleadref04_Of.l0 : Nat → List Int → Int → Int → Int → Int → Int → Int → Int → Int → Int → Int → Option (Int × Int × Int × Int × Int × Int × Int × Int × Int × Int)
 | 0, _, _, _, _, _, _, _, _, _, _, _ => none
 | k + 1, x0, x5, Z0, Z1, Z2, Z3, Z4, Z5, Z6, Z7, Z8 => if x5 < 6 then (if x5 = 0 then (if 16 ≤ 24 then (if 24 ≤ (x0.length : Int) then ((fairleadref04_number.f k ((x0.take 24).drop 16)).bind fun t421 => (fairleadref04_Of.l0 k x0 1 Z0 Z1 Z2 t421 Z4 Z5 Z6 Z7 Z8)) else (none)) else (none)) else (if x5 = 1 then (if 24 ≤ 32 then (if 32 ≤ (x0.length : Int) then ((fairleadref04_number.f k ((x0.take 32).drop 24)).bind fun t423 => (fairleadref04_Of.l0 k x0 2 Z0 Z1 Z2 Z3 t423 Z5 Z6 Z7 Z8)) else (none)) else (none)) else (if x5 = 2 then (if 32 ≤ 40 then (if 40 ≤ (x0.length : Int) then ((fairleadref04_number.f k ((x0.take 40).drop 32)).bind fun t425 => (fairleadref04_Of.l0 k x0 3 Z0 Z1 Z2 Z3 Z4 t425 Z6 Z7 Z8)) else (none)) else (none)) else (if x5 = 3 then (if 40 ≤ 48 then (if 48 ≤ (x0.length : Int) then ((fairleadref04_number.f k ((x0.take 48).drop 40)).bind fun t427 => (fairleadref04_Of.l0 k x0 4 Z0 Z1 Z2 Z3 Z4 Z5 t427 Z7 Z8)) else (none)) else (none)) else (if x5 = 4 then (if 48 ≤ 56 then (if 56 ≤ (x0.length : Int) then ((fairleadref04_number.f k ((x0.take 56).drop 48)).bind fun t429 => (fairleadref04_Of.l0 k x0 5 Z0 Z1 Z2 Z3 Z4 Z5 Z6 t429 Z8)) else (none)) else (none)) else (if x5 = 5 then (if 56 ≤ 64 then (if 64 ≤ (x0.length : Int) then ((fairleadref04_number.f k ((x0.take 64).drop 56)).bind fun t431 => (fairleadref04_Of.l0 k x0 6 Z0 Z1 Z2 Z3 Z4 Z5 Z6 Z7 t431)) else (none)) else (none)) else (none))))))) else (some (Z0, Z1, Z2, Z3, Z4, Z5, Z6, Z7, Z8, 0))
def fairleadref04_Of.f (k : Nat) (l0 : List Int) : Option (Int × Int × Int × Int × Int × Int × Int × Int × Int × Int) := if (l0.length : Int) < 64 then (some (0, 0, 0, 0, 0, 0, 0, 0, 0, 2)) else (if (l0.length : Int) > 64 then (some (0, 0, 0, 0, 0, 0, 0, 0, 0, 3)) else (if 4 ≤ (l0.length : Int) then ((fairleadref04_number.f k (l0.take 4)).bind fun t414 => (if 4 ≤ 8 then (if 8 ≤ (l0.length : Int) then ((fairleadref04_number.f k ((l0.take 8).drop 4)).bind fun t416 => (if 8 ≤ 16 then (if 16 ≤ (l0.length : Int) then ((fairleadref04_number.f k ((l0.take 16).drop 8)).bind fun t418 => (fairleadref04_Of.l0 k l0 0 ((t414) % 4294967296) ((t416) % 4294967296) t418 0 0 0 0 0 0)) else (none)) else (none))) else (none)) else (none))) else (none)))
def fairleadref04_Of.T5 : Bool × List (List Nat × List Nat) := (true, [([], []), ([0], [0]), ([1], [1]), ([2], [2]), ([], []), ([4], [4]), ([5, 2], [5]), ([6], [6]), ([], []), ([8], [8]), ([9, 6], [9]), ([3, 7, 10], [3, 7, 10]), ([], []), ([12, 11, 10, 0, 1, 2, 3, 4, 5, 6, 7, 8, 9, 10, 11, 12], [11, 12])])
def fairleadref04_Of.B5 : List Nat := [0, 1, 3, 7, 0, 16, 55, 119, 0, 256, 887, 2047, 0, 8191]
theorem fairleadref04_Of.tab5 : rtab .any (opsOf Try.f30 5) = fairleadref04_Of.T5 := by kernel_rfl
theorem fairleadref04_Of.bits5 : waitsOk fairleadref04_Of.T5.2 fairleadref04_Of.B5 = true := by kernel_rfl
set_option maxHeartbeats 8000000 in
set_option maxRecDepth 100000 in
theorem fairleadref04_Of.calls (k : Nat) (A0 : Option Addr) (c0 : Nat) (l0 : List Int) (r1 : Int) (r2 : Int) (r3 : Int) (r4 : Int) (r5 : Int) (r6 : Int) (r7 : Int) (r8 : Int) (r9 : Int) (r10 : Int) (w : World) (hr0 : Kd.C (Kd.int .u8) w A0 l0.length l0) (hc0 : l0.length ≤ c0) (h : fairleadref04_Of.f k l0 = some (r1, r2, r3, r4, r5, r6, r7, r8, r9, r10)) :
  Calls Try.prog 30 #[.slice A0 l0.length c0] w fun e w' => e = .returned (.tuple #[.agg #[.int .u32 r1, .int .u32 r2, .int .u64 r3, .int .u64 r4, .int .u64 r5, .int .u64 r6, .int .u64 r7, .int .u64 r8, .int .u64 r9], .int .i64 r10]) ∧ Below w.heap.size w w' := by
 have hu26 := Try.underlying26
 have HR0 := Aside0.mk hr0
 have HC0 := Aside0.mk hc0
 clear hr0 hc0
 have HB := Aside0.mk (Below.refl w.heap.size w)
 have H : (if (l0.length : Int) < 64 then (some (0, 0, 0, 0, 0, 0, 0, 0, 0, 2)) else (if (l0.length : Int) > 64 then (some (0, 0, 0, 0, 0, 0, 0, 0, 0, 3)) else (if 4 ≤ (l0.length : Int) then ((fairleadref04_number.f k (l0.take 4)).bind fun t414 => (if 4 ≤ 8 then (if 8 ≤ (l0.length : Int) then ((fairleadref04_number.f k ((l0.take 8).drop 4)).bind fun t416 => (if 8 ≤ 16 then (if 16 ≤ (l0.length : Int) then ((fairleadref04_number.f k ((l0.take 16).drop 8)).bind fun t418 => (fairleadref04_Of.l0 k l0 0 ((t414) % 4294967296) ((t416) % 4294967296) t418 0 0 0 0 0 0)) else (none)) else (none))) else (none)) else (none))) else (none)))) = some (r1, r2, r3, r4, r5, r6, r7, r8, r9, r10) := h
 clear h
 by_cases c2 : (l0.length : Int) < 64
 ·rw [if_pos c2] at H
  have c2b0 : decide ((l0.length : Int) < 64) = true := decide_eq_true c2
  have c2b1 : decide (l0.length < 64) = true := decide_eq_true (by omega)
  clear c2
  simp only [Option.some.injEq, Prod.mk.injEq] at H
  obtain ⟨rfl, rfl, rfl, rfl, rfl, rfl, rfl, rfl, rfl, rfl⟩ := H
  go_enter Try.func30, Try.ntmps30
  go_wp2_with (first | ((with_reducible refine gate_dst (N := 2) rfl ?_); refine box_event ?hg (N := 2) ?hd (cs := #[.int .u32 0, .int .u32 0, .int .u64 0, .int .u64 0, .int .u64 0, .int .u64 0, .int .u64 0, .int .u64 0, .int .u64 0]) (t := 26) ?hr ?_; (case hd => rfl); (case hg => rfl); (case hr => first | (go_simp; done) | (go_simp; rfl)); intro gb412 hg w3 hbox hb; have n0_ := Aside0.mk (below_step (by repeat (first | (with_reducible first | exact HB.out | apply below_alloc | apply pw_below_drewN | apply below_drew1) | exact HB.out)) hb); have n1_ := Aside0.mk (hbox); have n2_ := Aside0.mk ((by rw [hg]; exact (below_size (by repeat (first | (with_reducible first | exact HB.out | apply below_alloc | apply pw_below_drewN | apply below_drew1) | exact HB.out))) : w.heap.size ≤ gb412)); have n3_ := Aside0.mk ((by rw [hg]; exact (below_size (by repeat (first | (with_reducible first | exact HB.out | apply below_alloc | apply pw_below_drewN | apply below_drew1) | exact HB.out))) : w.heap.size ≤ gb412)); clear HB; have HB := n0_; have BK412 := n1_; have GW412 := n2_; have GE412 := n3_; clear n0_ n1_ n2_ n3_; clear hb hbox hg; have hcz4 := Mine.cells9 BK412.out; have hfz4_0 := blk_frozen BK412.out))
  refine bodyPost_ret (results_ct rfl _ _ gb412 26 #[.int .u32 0, .int .u32 0, .int .u64 0, .int .u64 0, .int .u64 0, .int .u64 0, .int .u64 0, .int .u64 0, .int .u64 0] (0, 0) _ rfl (by (with_reducible repeat (first | refine blk_drewN ?_ _ | refine blk_drew ?_ | refine blk_alloc ?_ _)); refine blk_put (cs := #[.int .u32 0, .int .u32 0, .int .u64 0, .int .u64 0, .int .u64 0, .int .u64 0, .int .u64 0, .int .u64 0, .int .u64 0]) ?_ 8 _ rfl; (with_reducible repeat (first | refine blk_drewN ?_ _ | refine blk_drew ?_ | refine blk_alloc ?_ _)); refine blk_put (cs := #[.int .u32 0, .int .u32 0, .int .u64 0, .int .u64 0, .int .u64 0, .int .u64 0, .int .u64 0, .int .u64 0, .int .u64 0]) ?_ 7 _ rfl; (with_reducible repeat (first | refine blk_drewN ?_ _ | refine blk_drew ?_ | refine blk_alloc ?_ _)); refine blk_put (cs := #[.int .u32 0, .int .u32 0, .int .u64 0, .int .u64 0, .int .u64 0, .int .u64 0, .int .u64 0, .int .u64 0, .int .u64 0]) ?_ 6 _ rfl; (with_reducible repeat (first | refine blk_drewN ?_ _ | refine blk_drew ?_ | refine blk_alloc ?_ _)); refine blk_put (cs := #[.int .u32 0, .int .u32 0, .int .u64 0, .int .u64 0, .int .u64 0, .int .u64 0, .int .u64 0, .int .u64 0, .int .u64 0]) ?_ 5 _ rfl; (with_reducible repeat (first | refine blk_drewN ?_ _ | refine blk_drew ?_ | refine blk_alloc ?_ _)); refine blk_put (cs := #[.int .u32 0, .int .u32 0, .int .u64 0, .int .u64 0, .int .u64 0, .int .u64 0, .int .u64 0, .int .u64 0, .int .u64 0]) ?_ 4 _ rfl; (with_reducible repeat (first | refine blk_drewN ?_ _ | refine blk_drew ?_ | refine blk_alloc ?_ _)); refine blk_put (cs := #[.int .u32 0, .int .u32 0, .int .u64 0, .int .u64 0, .int .u64 0, .int .u64 0, .int .u64 0, .int .u64 0, .int .u64 0]) ?_ 3 _ rfl; (with_reducible repeat (first | refine blk_drewN ?_ _ | refine blk_drew ?_ | refine blk_alloc ?_ _)); refine blk_put (cs := #[.int .u32 0, .int .u32 0, .int .u64 0, .int .u64 0, .int .u64 0, .int .u64 0, .int .u64 0, .int .u64 0, .int .u64 0]) ?_ 2 _ rfl; (with_reducible repeat (first | refine blk_drewN ?_ _ | refine blk_drew ?_ | refine blk_alloc ?_ _)); refine blk_put (cs := #[.int .u32 0, .int .u32 0, .int .u64 0, .int .u64 0, .int .u64 0, .int .u64 0, .int .u64 0, .int .u64 0, .int .u64 0]) ?_ 1 _ rfl; (with_reducible repeat (first | refine blk_drewN ?_ _ | refine blk_drew ?_ | refine blk_alloc ?_ _)); refine blk_put (cs := #[.int .u32 0, .int .u32 0, .int .u64 0, .int .u64 0, .int .u64 0, .int .u64 0, .int .u64 0, .int .u64 0, .int .u64 0]) ?_ 0 _ rfl; (with_reducible repeat (first | refine blk_drewN ?_ _ | refine blk_drew ?_ | refine blk_alloc ?_ _)); exact BK412.out) Try.underlying26 rfl (by kernel_rfl)) rfl ?_
  exact ⟨by first | rfl | (simp [errW_none, errW_some] <;> rfl) | (simp [*, errW_none, errW_some] <;> rfl), by repeat (first | (with_reducible first | exact HB.out | apply below_alloc | apply pw_below_drewN | apply below_drew1 | refine below_set ?_ GE412.out) | exact HB.out)⟩
 ·rw [if_neg c2] at H
  have c2b0 : decide ((l0.length : Int) < 64) = false := decide_eq_false c2
  have c2b1 : decide (l0.length < 64) = false := decide_eq_false (by omega)
  clear c2
  by_cases c5 : (l0.length : Int) > 64
  ·rw [if_pos c5] at H
   have c5b0 : decide (64 < (l0.length : Int)) = true := decide_eq_true c5
   have c5b1 : decide (64 < l0.length) = true := decide_eq_true (by omega)
   clear c5
   simp only [Option.some.injEq, Prod.mk.injEq] at H
   obtain ⟨rfl, rfl, rfl, rfl, rfl, rfl, rfl, rfl, rfl, rfl⟩ := H
   go_enter Try.func30, Try.ntmps30
   go_wp2_with (first | ((with_reducible refine gate_dst (N := 2) rfl ?_); refine box_event ?hg (N := 2) ?hd (cs := #[.int .u32 0, .int .u32 0, .int .u64 0, .int .u64 0, .int .u64 0, .int .u64 0, .int .u64 0, .int .u64 0, .int .u64 0]) (t := 26) ?hr ?_; (case hd => rfl); (case hg => rfl); (case hr => first | (go_simp; done) | (go_simp; rfl)); intro gb412 hg w6 hbox hb; have n0_ := Aside0.mk (below_step (by repeat (first | (with_reducible first | exact HB.out | apply below_alloc | apply pw_below_drewN | apply below_drew1) | exact HB.out)) hb); have n1_ := Aside0.mk (hbox); have n2_ := Aside0.mk ((by rw [hg]; exact (below_size (by repeat (first | (with_reducible first | exact HB.out | apply below_alloc | apply pw_below_drewN | apply below_drew1) | exact HB.out))) : w.heap.size ≤ gb412)); have n3_ := Aside0.mk ((by rw [hg]; exact (below_size (by repeat (first | (with_reducible first | exact HB.out | apply below_alloc | apply pw_below_drewN | apply below_drew1) | exact HB.out))) : w.heap.size ≤ gb412)); clear HB; have HB := n0_; have BK412 := n1_; have GW412 := n2_; have GE412 := n3_; clear n0_ n1_ n2_ n3_; clear hb hbox hg; have hcz7 := Mine.cells9 BK412.out; have hfz7_0 := blk_frozen BK412.out))
   refine bodyPost_ret (results_ct rfl _ _ gb412 26 #[.int .u32 0, .int .u32 0, .int .u64 0, .int .u64 0, .int .u64 0, .int .u64 0, .int .u64 0, .int .u64 0, .int .u64 0] (0, 0) _ rfl (by (with_reducible repeat (first | refine blk_drewN ?_ _ | refine blk_drew ?_ | refine blk_alloc ?_ _)); refine blk_put (cs := #[.int .u32 0, .int .u32 0, .int .u64 0, .int .u64 0, .int .u64 0, .int .u64 0, .int .u64 0, .int .u64 0, .int .u64 0]) ?_ 8 _ rfl; (with_reducible repeat (first | refine blk_drewN ?_ _ | refine blk_drew ?_ | refine blk_alloc ?_ _)); refine blk_put (cs := #[.int .u32 0, .int .u32 0, .int .u64 0, .int .u64 0, .int .u64 0, .int .u64 0, .int .u64 0, .int .u64 0, .int .u64 0]) ?_ 7 _ rfl; (with_reducible repeat (first | refine blk_drewN ?_ _ | refine blk_drew ?_ | refine blk_alloc ?_ _)); refine blk_put (cs := #[.int .u32 0, .int .u32 0, .int .u64 0, .int .u64 0, .int .u64 0, .int .u64 0, .int .u64 0, .int .u64 0, .int .u64 0]) ?_ 6 _ rfl; (with_reducible repeat (first | refine blk_drewN ?_ _ | refine blk_drew ?_ | refine blk_alloc ?_ _)); refine blk_put (cs := #[.int .u32 0, .int .u32 0, .int .u64 0, .int .u64 0, .int .u64 0, .int .u64 0, .int .u64 0, .int .u64 0, .int .u64 0]) ?_ 5 _ rfl; (with_reducible repeat (first | refine blk_drewN ?_ _ | refine blk_drew ?_ | refine blk_alloc ?_ _)); refine blk_put (cs := #[.int .u32 0, .int .u32 0, .int .u64 0, .int .u64 0, .int .u64 0, .int .u64 0, .int .u64 0, .int .u64 0, .int .u64 0]) ?_ 4 _ rfl; (with_reducible repeat (first | refine blk_drewN ?_ _ | refine blk_drew ?_ | refine blk_alloc ?_ _)); refine blk_put (cs := #[.int .u32 0, .int .u32 0, .int .u64 0, .int .u64 0, .int .u64 0, .int .u64 0, .int .u64 0, .int .u64 0, .int .u64 0]) ?_ 3 _ rfl; (with_reducible repeat (first | refine blk_drewN ?_ _ | refine blk_drew ?_ | refine blk_alloc ?_ _)); refine blk_put (cs := #[.int .u32 0, .int .u32 0, .int .u64 0, .int .u64 0, .int .u64 0, .int .u64 0, .int .u64 0, .int .u64 0, .int .u64 0]) ?_ 2 _ rfl; (with_reducible repeat (first | refine blk_drewN ?_ _ | refine blk_drew ?_ | refine blk_alloc ?_ _)); refine blk_put (cs := #[.int .u32 0, .int .u32 0, .int .u64 0, .int .u64 0, .int .u64 0, .int .u64 0, .int .u64 0, .int .u64 0, .int .u64 0]) ?_ 1 _ rfl; (with_reducible repeat (first | refine blk_drewN ?_ _ | refine blk_drew ?_ | refine blk_alloc ?_ _)); refine blk_put (cs := #[.int .u32 0, .int .u32 0, .int .u64 0, .int .u64 0, .int .u64 0, .int .u64 0, .int .u64 0, .int .u64 0, .int .u64 0]) ?_ 0 _ rfl; (with_reducible repeat (first | refine blk_drewN ?_ _ | refine blk_drew ?_ | refine blk_alloc ?_ _)); exact BK412.out) Try.underlying26 rfl (by kernel_rfl)) rfl ?_
   exact ⟨by first | rfl | (simp [errW_none, errW_some] <;> rfl) | (simp [*, errW_none, errW_some] <;> rfl), by repeat (first | (with_reducible first | exact HB.out | apply below_alloc | apply pw_below_drewN | apply below_drew1 | refine below_set ?_ GE412.out) | exact HB.out)⟩
  ·rw [if_neg c5] at H
   have c5b0 : decide (64 < (l0.length : Int)) = false := decide_eq_false c5
   have c5b1 : decide (64 < l0.length) = false := decide_eq_false (by omega)
   clear c5
   by_cases c8 : 4 ≤ (l0.length : Int)
   ·rw [if_pos c8] at H
    have c8b0 := eq_true c8
    have c8b1 : decide (4 ≤ (l0.length : Int)) = true := decide_eq_true c8
    clear c8
    replace H := Option.bind_eq_some_iff.mp H
    obtain ⟨t414, A90, H⟩ := H
    replace H : (if 4 ≤ 8 then (if 8 ≤ (l0.length : Int) then ((fairleadref04_number.f k ((l0.take 8).drop 4)).bind fun t416 => (if 8 ≤ 16 then (if 16 ≤ (l0.length : Int) then ((fairleadref04_number.f k ((l0.take 16).drop 8)).bind fun t418 => (fairleadref04_Of.l0 k l0 0 ((t414) % 4294967296) ((t416) % 4294967296) t418 0 0 0 0 0 0)) else (none)) else (none))) else (none)) else (none)) = some (r1, r2, r3, r4, r5, r6, r7, r8, r9, r10) := H
    have A9 := Aside0.mk A90
    clear A90
    by_cases c10 : 4 ≤ 8
    ·rw [if_pos c10] at H
     have c10b0 := eq_true c10
     have c10b1 : decide (4 ≤ 8) = true := decide_eq_true c10
     clear c10
     by_cases c11 : 8 ≤ (l0.length : Int)
     ·rw [if_pos c11] at H
      have c11b0 := eq_true c11
      have c11b1 : decide (8 ≤ (l0.length : Int)) = true := decide_eq_true c11
      clear c11
      replace H := Option.bind_eq_some_iff.mp H
      obtain ⟨t416, A120, H⟩ := H
      replace H : (if 8 ≤ 16 then (if 16 ≤ (l0.length : Int) then ((fairleadref04_number.f k ((l0.take 16).drop 8)).bind fun t418 => (fairleadref04_Of.l0 k l0 0 ((t414) % 4294967296) ((t416) % 4294967296) t418 0 0 0 0 0 0)) else (none)) else (none)) = some (r1, r2, r3, r4, r5, r6, r7, r8, r9, r10) := H
      have A12 := Aside0.mk A120
      clear A120
      by_cases c13 : 8 ≤ 16
      ·rw [if_pos c13] at H
       have c13b0 := eq_true c13
       have c13b1 : decide (8 ≤ 16) = true := decide_eq_true c13
       clear c13
       by_cases c14 : 16 ≤ (l0.length : Int)
       ·rw [if_pos c14] at H
        have c14b0 := eq_true c14
        have c14b1 : decide (16 ≤ (l0.length : Int)) = true := decide_eq_true c14
        clear c14
        replace H := Option.bind_eq_some_iff.mp H
        obtain ⟨t418, A150, H⟩ := H
        replace H : (fairleadref04_Of.l0 k l0 0 ((t414) % 4294967296) ((t416) % 4294967296) t418 0 0 0 0 0 0) = some (r1, r2, r3, r4, r5, r6, r7, r8, r9, r10) := H
        have A15 := Aside0.mk A150
        clear A150
        have H' := Aside0.mk H
        clear H
        go_enter Try.func30, Try.ntmps30
        try go_wp2_with (first | ((with_reducible refine gate_dst (N := 2) rfl ?_); refine box_event ?hg (N := 2) ?hd (cs := #[.int .u32 0, .int .u32 0, .int .u64 0, .int .u64 0, .int .u64 0, .int .u64 0, .int .u64 0, .int .u64 0, .int .u64 0]) (t := 26) ?hr ?_; (case hd => rfl); (case hg => rfl); (case hr => first | (go_simp; done) | (go_simp; rfl)); intro gb412 hg w16 hbox hb; have n0_ := Aside0.mk (below_step (by repeat (first | (with_reducible first | exact HB.out | apply below_alloc | apply pw_below_drewN | apply below_drew1) | exact HB.out)) hb); have n1_ := Aside0.mk (hbox); have n2_ := Aside0.mk ((by rw [hg]; exact (below_size (by repeat (first | (with_reducible first | exact HB.out | apply below_alloc | apply pw_below_drewN | apply below_drew1) | exact HB.out))) : w.heap.size ≤ gb412)); have n3_ := Aside0.mk ((by rw [hg]; exact (below_size (by repeat (first | (with_reducible first | exact HB.out | apply below_alloc | apply pw_below_drewN | apply below_drew1) | exact HB.out))) : w.heap.size ≤ gb412)); clear HB; have HB := n0_; have BK412 := n1_; have GW412 := n2_; have GE412 := n3_; clear n0_ n1_ n2_ n3_; clear hb hbox hg))
        have n0_ := Aside0.mk (blk_drew BK412.out)
        have n1_ := Aside0.mk (below_drew1 HB.out)
        clear BK412
        clear HB
        have BK412 := n0_
        have HB := n1_
        clear n0_ n1_
        obtain ⟨i018, hi018, _, hsz18, _⟩ := info_parts info5
        obtain ⟨hcut18, hA18, hC18⟩ := print_take_of (P := Try.prog) (Value.int .u8) 0 30 5 .i64 Try.underlying30 hi018 hsz18 A0 c0 l0 4 (by omega) (of_decide_eq_true (by first | (with_reducible assumption) | assumption)) HC0.out
        have HR413 := Aside0.mk (Kd.C_of_reads (h1 := fun _ => rfl) (hA18 _ (Kd.reads_of_C HR0.out)))
        have HC413 := Aside0.mk hC18
        clear hA18 hC18 hi018 hsz18
        obtain ⟨i019, hi019, _, hsz19, _⟩ := info_parts info5
        obtain ⟨A19, hcut19, hA19, hC19⟩ := print_mid_of (P := Try.prog) (Value.int .u8) 0 30 5 .i64 .i64 Try.underlying30 hi019 hsz19 A0 c0 l0 4 8 (by omega) (by first | omega | exact of_decide_eq_true (by first | (with_reducible assumption) | assumption)) (of_decide_eq_true (by first | (with_reducible assumption) | assumption)) HC0.out
        have HR415 := Aside0.mk (Kd.C_of_reads (h1 := fun _ => rfl) (hA19 _ (Kd.reads_of_C HR0.out)))
        have HC415 := Aside0.mk hC19
        clear hA19 hC19 hi019 hsz19
        obtain ⟨i020, hi020, _, hsz20, _⟩ := info_parts info5
        obtain ⟨A20, hcut20, hA20, hC20⟩ := print_mid_of (P := Try.prog) (Value.int .u8) 0 30 5 .i64 .i64 Try.underlying30 hi020 hsz20 A0 c0 l0 8 16 (by omega) (by first | omega | exact of_decide_eq_true (by first | (with_reducible assumption) | assumption)) (of_decide_eq_true (by first | (with_reducible assumption) | assumption)) HC0.out
        have HR417 := Aside0.mk (Kd.C_of_reads (h1 := fun _ => rfl) (hA20 _ (Kd.reads_of_C HR0.out)))
        have HC417 := Aside0.mk hC20
        clear hA20 hC20 hi020 hsz20
        refine start_ (n := 14) (S := fun w' => True) (ds := []) #[false, false, false, false, false, false, false, false, false, false, false, false, false, false] (by kernel_rfl) rfl rfl trivial (fun hHeld => ?_); refine with_tabW fairleadref04_Of.tab5 fairleadref04_Of.bits5 (fun HT_ HW_ => ?_)
        generalize w16.drew = w17 at BK412 HB HR413 HR415 HR417 hHeld ⊢
        refine Mine.pS 0 (some 14) ?_ (hc := any_of HT_.out (by kernel_rfl)); refine Mine.pS 1 (some 15) ?_ (hc := any_of HT_.out (by kernel_rfl)); refine Mine.pS 4 (some 18) ?_ (hc := any_of HT_.out (by kernel_rfl)); refine Mine.pS 5 (some 19) ?_ (hc := any_of HT_.out (by kernel_rfl)); refine Mine.pS 8 (some 22) ?_ (hc := any_of HT_.out (by kernel_rfl)); refine Mine.pS 9 (some 23) ?_ (hc := any_of HT_.out (by kernel_rfl))
        refine join_ (σ := Nat) 1 #[true, true, true, true, true, true, true, true, true, true, true, true, true, false] (fun s_ => [(16, .int .u64 t414), (20, .int .u64 t416), (24, .int .u64 t418), (4, .pointer (some ⟨s_, 0, none⟩)), (17, .int .u32 ((t414) % 4294967296)), (21, .int .u32 ((t416) % 4294967296)), (25, .agg #[.int .u32 ((t414) % 4294967296), .int .u32 ((t416) % 4294967296), .int .u64 t418, .int .u64 0, .int .u64 0, .int .u64 0, .int .u64 0, .int .u64 0, .int .u64 0])]) (fun s_ w' => (w'.heap[gb412]? = some (.cells #[.int .u32 0, .int .u32 0, .int .u64 0, .int .u64 0, .int .u64 0, .int .u64 0, .int .u64 0, .int .u64 0, .int .u64 0] 26 (0, 0))) ∧ (w'.heap[s_]? = some (.cells #[.int .u32 0, .int .u32 0, .int .u64 0, .int .u64 0, .int .u64 0, .int .u64 0, .int .u64 0, .int .u64 0, .int .u64 0] 26 (0, 0))) ∧ (w.heap.size ≤ s_) ∧ (w.heap.size ≤ s_) ∧ (gb412 ≠ s_) ∧ (s_ ≠ gb412) ∧ (Below w.heap.size w w')) ?_ ?_
        rotate_left
        ·intro hCont
         refine two_ (i := 2) (j := 12) (Ni := some 16) (Nj := some 4) #[true, true, true, false, true, true, false, false, true, true, false, false, false, false] #[true, true, false, false, true, true, false, false, true, true, false, false, true, false] rfl rfl rfl rfl (two_of HT_.out (by kernel_rfl)) (by decide) (by decide) (fun K hK => ?_) (fun K hK => ?_)
         ·skip
          refine goes_ Try.func39 (by kernel_rfl) rfl #[.slice A0 (l0.take 4).length c0] (by rfl) rfl rfl (by (try simp only [List.map_toArray, List.map_cons, List.map_nil]); first | done | (rw [show (l0.take 4).length = 4 from (by rw [List.length_take]; have h_ : (4 : Int) ≤ (l0.length : Int) := of_decide_eq_true (by first | (with_reducible assumption) | assumption); omega)] <;> rfl) | rfl | (simp only [List.length_drop, List.length_take]; rfl)) ?_
          with_reducible refine (fairleadref04_number.calls k _ _ (l0.take 4) t414 _ ?side1 ?side2 A9.out).mono ?_
          (case side1 => repeat (first | exact (Kd.C_below HR413.out HB.out) | (with_reducible refine Kd.C_alloc ?_ _) | (with_reducible refine Kd.C_drewN ?_ _) | (with_reducible refine Kd.C_drew ?_)))
          (case side2 => exact HC413.out)
          rintro e w' ⟨rfl, ⟨nd, rfl⟩⟩
          refine ⟨_, rfl, ?_⟩
          refine hK.out _ _ trivial (fun hHeld => ?_)
          clear hK K
          refine norm_ (a' := ?_) ?_ ?_
          rotate_left
          ·show Act.put _ (some 16) _ = _
           simp only [Act.put, List.setIfInBounds_toArray, List.set_cons_zero, List.set_cons_succ, i64_w, i32_w]
           rfl
          refine Mine.pS 3 (some 17) ?_ (hc := any_of HT_.out (by kernel_rfl))
          refine two_ (i := 6) (j := 12) (Ni := some 20) (Nj := some 4) #[true, true, true, true, true, true, true, false, true, true, false, false, false, false] #[true, true, true, true, true, true, false, false, true, true, false, false, true, false] rfl rfl rfl rfl (two_of HT_.out (by kernel_rfl)) (by decide) (by decide) (fun K hK => ?_) (fun K hK => ?_)
          ·skip
           refine goes_ Try.func39 (by kernel_rfl) rfl #[.slice A19 ((l0.take 8).drop 4).length (c0 - 4)] (by rfl) rfl rfl (by (try simp only [List.map_toArray, List.map_cons, List.map_nil]); first | done | (rw [show ((l0.take 8).drop 4).length = (8 - 4) from (by rw [List.length_drop, List.length_take]; have h_ : (8 : Int) ≤ (l0.length : Int) := of_decide_eq_true (by first | (with_reducible assumption) | assumption); omega)] <;> rfl) | rfl | (simp only [List.length_drop, List.length_take]; rfl)) ?_
           with_reducible refine (fairleadref04_number.calls k _ _ ((l0.take 8).drop 4) t416 _ ?side1 ?side2 A12.out).mono ?_
           (case side1 => repeat (first | exact (Kd.C_below HR415.out (by repeat (first | (with_reducible first | exact HB.out | apply below_alloc | apply pw_below_drewN | apply below_drew1 | refine below_set ?_ GE412.out) | exact HB.out))) | (with_reducible refine Kd.C_alloc ?_ _) | (with_reducible refine Kd.C_drewN ?_ _) | (with_reducible refine Kd.C_drew ?_)))
           (case side2 => exact HC415.out)
           rintro e w' ⟨rfl, ⟨nd, rfl⟩⟩
           refine ⟨_, rfl, ?_⟩
           refine hK.out _ _ trivial (fun hHeld => ?_)
           clear hK K
           refine norm_ (a' := ?_) ?_ ?_
           rotate_left
           ·show Act.put _ (some 20) _ = _
            simp only [Act.put, List.setIfInBounds_toArray, List.set_cons_zero, List.set_cons_succ, i64_w, i32_w]
            rfl
           refine Mine.pS 7 (some 21) ?_ (hc := any_of HT_.out (by kernel_rfl))
           refine two_ (i := 10) (j := 12) (Ni := some 24) (Nj := some 4) #[true, true, true, true, true, true, true, true, true, true, true, false, false, false] #[true, true, true, true, true, true, true, true, true, true, false, false, true, false] rfl rfl rfl rfl (two_of HT_.out (by kernel_rfl)) (by decide) (by decide) (fun K hK => ?_) (fun K hK => ?_)
           ·skip
            refine goes_ Try.func39 (by kernel_rfl) rfl #[.slice A20 ((l0.take 16).drop 8).length (c0 - 8)] (by rfl) rfl rfl (by (try simp only [List.map_toArray, List.map_cons, List.map_nil]); first | done | (rw [show ((l0.take 16).drop 8).length = (16 - 8) from (by rw [List.length_drop, List.length_take]; have h_ : (16 : Int) ≤ (l0.length : Int) := of_decide_eq_true (by first | (with_reducible assumption) | assumption); omega)] <;> rfl) | rfl | (simp only [List.length_drop, List.length_take]; rfl)) ?_
            with_reducible refine (fairleadref04_number.calls k _ _ ((l0.take 16).drop 8) t418 _ ?side1 ?side2 A15.out).mono ?_
            (case side1 => repeat (first | exact (Kd.C_below HR417.out (by repeat (first | (with_reducible first | exact HB.out | apply below_alloc | apply pw_below_drewN | apply below_drew1 | refine below_set ?_ GE412.out) | exact HB.out))) | (with_reducible refine Kd.C_alloc ?_ _) | (with_reducible refine Kd.C_drewN ?_ _) | (with_reducible refine Kd.C_drew ?_)))
            (case side2 => exact HC417.out)
            rintro e w' ⟨rfl, ⟨nd, rfl⟩⟩
            refine ⟨_, rfl, ?_⟩
            refine hK.out _ _ trivial (fun hHeld => ?_)
            clear hK K
            refine norm_ (a' := ?_) ?_ ?_
            rotate_left
            ·show Act.put _ (some 24) _ = _
             simp only [Act.put, List.setIfInBounds_toArray, List.set_cons_zero, List.set_cons_succ, i64_w, i32_w]
             rfl
            refine Mine.pS 11 (some 25) ?_ (hc := any_of HT_.out (by kernel_rfl))
            refine one_ (i := 12) (N := some 4) #[true, true, true, true, true, true, true, true, true, true, true, true, true, false] rfl rfl (one_of HT_.out (by kernel_rfl)) (by decide) (fun K hK => ?_)
            refine box_step ?hg (N := 4) ?hd (cs := #[.int .u32 0, .int .u32 0, .int .u64 0, .int .u64 0, .int .u64 0, .int .u64 0, .int .u64 0, .int .u64 0, .int .u64 0]) (t := 26) ?hr ?_; (case hd => rfl); (case hg => rfl); (case hr => first | (go_simp; done) | (go_simp; rfl))
            intro gb419 hg w21 hbox hb
            have n0_ := Aside0.mk (blk_below (g := gb412) (o := .cells #[.int .u32 0, .int .u32 0, .int .u64 0, .int .u64 0, .int .u64 0, .int .u64 0, .int .u64 0, .int .u64 0, .int .u64 0] 26 (0, 0)) (by (with_reducible repeat (first | refine blk_drewN ?_ _ | refine blk_drew ?_ | refine blk_alloc ?_ _)); exact BK412.out) hb)
            have n1_ := Aside0.mk (below_step (by repeat (first | (with_reducible first | exact HB.out | apply below_alloc | apply pw_below_drewN | apply below_drew1 | refine below_set ?_ GE412.out) | exact HB.out)) hb)
            have n2_ := Aside0.mk (hbox)
            have n3_ := Aside0.mk ((by rw [hg]; exact (below_size (by repeat (first | (with_reducible first | exact HB.out | apply below_alloc | apply pw_below_drewN | apply below_drew1 | refine below_set ?_ GE412.out) | exact HB.out))) : w.heap.size ≤ gb419))
            have n4_ := Aside0.mk ((by rw [hg]; exact (below_size (by repeat (first | (with_reducible first | exact HB.out | apply below_alloc | apply pw_below_drewN | apply below_drew1 | refine below_set ?_ GE412.out) | exact HB.out))) : w.heap.size ≤ gb419))
            have n5_ := Aside0.mk ((by rw [hg]; exact Nat.ne_of_lt (blk_lt (g := gb412) (o := .cells #[.int .u32 0, .int .u32 0, .int .u64 0, .int .u64 0, .int .u64 0, .int .u64 0, .int .u64 0, .int .u64 0, .int .u64 0] 26 (0, 0)) (by (with_reducible repeat (first | refine blk_drewN ?_ _ | refine blk_drew ?_ | refine blk_alloc ?_ _)); exact BK412.out)) : gb412 ≠ gb419))
            have n6_ := Aside0.mk ((by rw [hg]; exact Nat.ne_of_gt (blk_lt (g := gb412) (o := .cells #[.int .u32 0, .int .u32 0, .int .u64 0, .int .u64 0, .int .u64 0, .int .u64 0, .int .u64 0, .int .u64 0, .int .u64 0] 26 (0, 0)) (by (with_reducible repeat (first | refine blk_drewN ?_ _ | refine blk_drew ?_ | refine blk_alloc ?_ _)); exact BK412.out)) : gb419 ≠ gb412))
            clear BK412
            clear HB
            have BK412 := n0_
            have HB := n1_
            have BK419 := n2_
            have GW419 := n3_
            have GE419 := n4_
            have NB412_419 := n5_
            have NB419_412 := n6_
            clear n0_ n1_ n2_ n3_ n4_ n5_ n6_
            clear hb hbox hg
            refine hK.out _ _ trivial (fun hHeld => ?_)
            clear hK K
            refine norm_ (a' := ?_) ?_ ?_
            rotate_left
            ·show Act.put _ (some 4) _ = _
             simp only [Act.put, List.setIfInBounds_toArray, List.set_cons_zero, List.set_cons_succ, i64_w, i32_w]
             rfl
            exact norm_ (by simp only [putAll, Act.put, List.setIfInBounds_toArray, List.set_cons_zero, List.set_cons_succ] <;> (try simp only [IntKind.wrap_u32])) (hCont (gb419) _ ⟨(by (with_reducible repeat (first | refine blk_drewN ?_ _ | refine blk_drew ?_ | refine blk_alloc ?_ _)); exact BK412.out), (by (with_reducible repeat (first | refine blk_drewN ?_ _ | refine blk_drew ?_ | refine blk_alloc ?_ _)); exact BK419.out), GW419.out, GE419.out, NB412_419.out, NB419_412.out, (by repeat (first | (with_reducible first | exact HB.out | apply below_alloc | apply pw_below_drewN | apply below_drew1 | refine below_set ?_ GE412.out | refine below_set ?_ GE419.out) | exact HB.out))⟩)
           ·skip
            refine box_step ?hg (N := 4) ?hd (cs := #[.int .u32 0, .int .u32 0, .int .u64 0, .int .u64 0, .int .u64 0, .int .u64 0, .int .u64 0, .int .u64 0, .int .u64 0]) (t := 26) ?hr ?_; (case hd => rfl); (case hg => rfl); (case hr => first | (go_simp; done) | (go_simp; rfl))
            intro gb419 hg w21 hbox hb
            have n0_ := Aside0.mk (blk_below (g := gb412) (o := .cells #[.int .u32 0, .int .u32 0, .int .u64 0, .int .u64 0, .int .u64 0, .int .u64 0, .int .u64 0, .int .u64 0, .int .u64 0] 26 (0, 0)) (by (with_reducible repeat (first | refine blk_drewN ?_ _ | refine blk_drew ?_ | refine blk_alloc ?_ _)); exact BK412.out) hb)
            have n1_ := Aside0.mk (below_step (by repeat (first | (with_reducible first | exact HB.out | apply below_alloc | apply pw_below_drewN | apply below_drew1 | refine below_set ?_ GE412.out) | exact HB.out)) hb)
            have n2_ := Aside0.mk (hbox)
            have n3_ := Aside0.mk ((by rw [hg]; exact (below_size (by repeat (first | (with_reducible first | exact HB.out | apply below_alloc | apply pw_below_drewN | apply below_drew1 | refine below_set ?_ GE412.out) | exact HB.out))) : w.heap.size ≤ gb419))
            have n4_ := Aside0.mk ((by rw [hg]; exact (below_size (by repeat (first | (with_reducible first | exact HB.out | apply below_alloc | apply pw_below_drewN | apply below_drew1 | refine below_set ?_ GE412.out) | exact HB.out))) : w.heap.size ≤ gb419))
            have n5_ := Aside0.mk ((by rw [hg]; exact Nat.ne_of_lt (blk_lt (g := gb412) (o := .cells #[.int .u32 0, .int .u32 0, .int .u64 0, .int .u64 0, .int .u64 0, .int .u64 0, .int .u64 0, .int .u64 0, .int .u64 0] 26 (0, 0)) (by (with_reducible repeat (first | refine blk_drewN ?_ _ | refine blk_drew ?_ | refine blk_alloc ?_ _)); exact BK412.out)) : gb412 ≠ gb419))
            have n6_ := Aside0.mk ((by rw [hg]; exact Nat.ne_of_gt (blk_lt (g := gb412) (o := .cells #[.int .u32 0, .int .u32 0, .int .u64 0, .int .u64 0, .int .u64 0, .int .u64 0, .int .u64 0, .int .u64 0, .int .u64 0] 26 (0, 0)) (by (with_reducible repeat (first | refine blk_drewN ?_ _ | refine blk_drew ?_ | refine blk_alloc ?_ _)); exact BK412.out)) : gb419 ≠ gb412))
            clear BK412
            clear HB
            have BK412 := n0_
            have HB := n1_
            have BK419 := n2_
            have GW419 := n3_
            have GE419 := n4_
            have NB412_419 := n5_
            have NB419_412 := n6_
            clear n0_ n1_ n2_ n3_ n4_ n5_ n6_
            clear hb hbox hg
            refine hK.out _ _ trivial (fun hHeld => ?_)
            clear hK K
            refine norm_ (a' := ?_) ?_ ?_
            rotate_left
            ·show Act.put _ (some 4) _ = _
             simp only [Act.put, List.setIfInBounds_toArray, List.set_cons_zero, List.set_cons_succ, i64_w, i32_w]
             rfl
            refine one_ (i := 10) (N := some 24) #[true, true, true, true, true, true, true, true, true, true, true, false, true, false] rfl rfl (one_of HT_.out (by kernel_rfl)) (by decide) (fun K hK => ?_)
            refine goes_ Try.func39 (by kernel_rfl) rfl #[.slice A20 ((l0.take 16).drop 8).length (c0 - 8)] (by rfl) rfl rfl (by (try simp only [List.map_toArray, List.map_cons, List.map_nil]); first | done | (rw [show ((l0.take 16).drop 8).length = (16 - 8) from (by rw [List.length_drop, List.length_take]; have h_ : (16 : Int) ≤ (l0.length : Int) := of_decide_eq_true (by first | (with_reducible assumption) | assumption); omega)] <;> rfl) | rfl | (simp only [List.length_drop, List.length_take]; rfl)) ?_
            with_reducible refine (fairleadref04_number.calls k _ _ ((l0.take 16).drop 8) t418 _ ?side1 ?side2 A15.out).mono ?_
            (case side1 => repeat (first | exact (Kd.C_below HR417.out HB.out) | (with_reducible refine Kd.C_alloc ?_ _) | (with_reducible refine Kd.C_drewN ?_ _) | (with_reducible refine Kd.C_drew ?_)))
            (case side2 => exact HC417.out)
            rintro e w' ⟨rfl, ⟨nd, rfl⟩⟩
            refine ⟨_, rfl, ?_⟩
            refine hK.out _ _ trivial (fun hHeld => ?_)
            clear hK K
            refine norm_ (a' := ?_) ?_ ?_
            rotate_left
            ·show Act.put _ (some 24) _ = _
             simp only [Act.put, List.setIfInBounds_toArray, List.set_cons_zero, List.set_cons_succ, i64_w, i32_w]
             rfl
            refine Mine.pS 11 (some 25) ?_ (hc := any_of HT_.out (by kernel_rfl))
            exact norm_ (by simp only [putAll, Act.put, List.setIfInBounds_toArray, List.set_cons_zero, List.set_cons_succ] <;> (try simp only [IntKind.wrap_u32])) (hCont (gb419) _ ⟨(by (with_reducible repeat (first | refine blk_drewN ?_ _ | refine blk_drew ?_ | refine blk_alloc ?_ _)); exact BK412.out), (by (with_reducible repeat (first | refine blk_drewN ?_ _ | refine blk_drew ?_ | refine blk_alloc ?_ _)); exact BK419.out), GW419.out, GE419.out, NB412_419.out, NB419_412.out, (by repeat (first | (with_reducible first | exact HB.out | apply below_alloc | apply pw_below_drewN | apply below_drew1 | refine below_set ?_ GE412.out | refine below_set ?_ GE419.out) | exact HB.out))⟩)
          ·skip
           refine box_step ?hg (N := 4) ?hd (cs := #[.int .u32 0, .int .u32 0, .int .u64 0, .int .u64 0, .int .u64 0, .int .u64 0, .int .u64 0, .int .u64 0, .int .u64 0]) (t := 26) ?hr ?_; (case hd => rfl); (case hg => rfl); (case hr => first | (go_simp; done) | (go_simp; rfl))
           intro gb419 hg w21 hbox hb
           have n0_ := Aside0.mk (blk_below (g := gb412) (o := .cells #[.int .u32 0, .int .u32 0, .int .u64 0, .int .u64 0, .int .u64 0, .int .u64 0, .int .u64 0, .int .u64 0, .int .u64 0] 26 (0, 0)) (by (with_reducible repeat (first | refine blk_drewN ?_ _ | refine blk_drew ?_ | refine blk_alloc ?_ _)); exact BK412.out) hb)
           have n1_ := Aside0.mk (below_step (by repeat (first | (with_reducible first | exact HB.out | apply below_alloc | apply pw_below_drewN | apply below_drew1 | refine below_set ?_ GE412.out) | exact HB.out)) hb)
           have n2_ := Aside0.mk (hbox)
           have n3_ := Aside0.mk ((by rw [hg]; exact (below_size (by repeat (first | (with_reducible first | exact HB.out | apply below_alloc | apply pw_below_drewN | apply below_drew1 | refine below_set ?_ GE412.out) | exact HB.out))) : w.heap.size ≤ gb419))
           have n4_ := Aside0.mk ((by rw [hg]; exact (below_size (by repeat (first | (with_reducible first | exact HB.out | apply below_alloc | apply pw_below_drewN | apply below_drew1 | refine below_set ?_ GE412.out) | exact HB.out))) : w.heap.size ≤ gb419))
           have n5_ := Aside0.mk ((by rw [hg]; exact Nat.ne_of_lt (blk_lt (g := gb412) (o := .cells #[.int .u32 0, .int .u32 0, .int .u64 0, .int .u64 0, .int .u64 0, .int .u64 0, .int .u64 0, .int .u64 0, .int .u64 0] 26 (0, 0)) (by (with_reducible repeat (first | refine blk_drewN ?_ _ | refine blk_drew ?_ | refine blk_alloc ?_ _)); exact BK412.out)) : gb412 ≠ gb419))
           have n6_ := Aside0.mk ((by rw [hg]; exact Nat.ne_of_gt (blk_lt (g := gb412) (o := .cells #[.int .u32 0, .int .u32 0, .int .u64 0, .int .u64 0, .int .u64 0, .int .u64 0, .int .u64 0, .int .u64 0, .int .u64 0] 26 (0, 0)) (by (with_reducible repeat (first | refine blk_drewN ?_ _ | refine blk_drew ?_ | refine blk_alloc ?_ _)); exact BK412.out)) : gb419 ≠ gb412))
           clear BK412
           clear HB
           have BK412 := n0_
           have HB := n1_
           have BK419 := n2_
           have GW419 := n3_
           have GE419 := n4_
           have NB412_419 := n5_
           have NB419_412 := n6_
           clear n0_ n1_ n2_ n3_ n4_ n5_ n6_
           clear hb hbox hg
           refine hK.out _ _ trivial (fun hHeld => ?_)
           clear hK K
           refine norm_ (a' := ?_) ?_ ?_
           rotate_left
           ·show Act.put _ (some 4) _ = _
            simp only [Act.put, List.setIfInBounds_toArray, List.set_cons_zero, List.set_cons_succ, i64_w, i32_w]
            rfl
           refine one_ (i := 6) (N := some 20) #[true, true, true, true, true, true, true, false, true, true, false, false, true, false] rfl rfl (one_of HT_.out (by kernel_rfl)) (by decide) (fun K hK => ?_)
           refine goes_ Try.func39 (by kernel_rfl) rfl #[.slice A19 ((l0.take 8).drop 4).length (c0 - 4)] (by rfl) rfl rfl (by (try simp only [List.map_toArray, List.map_cons, List.map_nil]); first | done | (rw [show ((l0.take 8).drop 4).length = (8 - 4) from (by rw [List.length_drop, List.length_take]; have h_ : (8 : Int) ≤ (l0.length : Int) := of_decide_eq_true (by first | (with_reducible assumption) | assumption); omega)] <;> rfl) | rfl | (simp only [List.length_drop, List.length_take]; rfl)) ?_
           with_reducible refine (fairleadref04_number.calls k _ _ ((l0.take 8).drop 4) t416 _ ?side1 ?side2 A12.out).mono ?_
           (case side1 => repeat (first | exact (Kd.C_below HR415.out HB.out) | (with_reducible refine Kd.C_alloc ?_ _) | (with_reducible refine Kd.C_drewN ?_ _) | (with_reducible refine Kd.C_drew ?_)))
           (case side2 => exact HC415.out)
           rintro e w' ⟨rfl, ⟨nd, rfl⟩⟩
           refine ⟨_, rfl, ?_⟩
           refine hK.out _ _ trivial (fun hHeld => ?_)
           clear hK K
           refine norm_ (a' := ?_) ?_ ?_
           rotate_left
           ·show Act.put _ (some 20) _ = _
            simp only [Act.put, List.setIfInBounds_toArray, List.set_cons_zero, List.set_cons_succ, i64_w, i32_w]
            rfl
           refine Mine.pS 7 (some 21) ?_ (hc := any_of HT_.out (by kernel_rfl))
           refine one_ (i := 10) (N := some 24) #[true, true, true, true, true, true, true, true, true, true, true, false, true, false] rfl rfl (one_of HT_.out (by kernel_rfl)) (by decide) (fun K hK => ?_)
           refine goes_ Try.func39 (by kernel_rfl) rfl #[.slice A20 ((l0.take 16).drop 8).length (c0 - 8)] (by rfl) rfl rfl (by (try simp only [List.map_toArray, List.map_cons, List.map_nil]); first | done | (rw [show ((l0.take 16).drop 8).length = (16 - 8) from (by rw [List.length_drop, List.length_take]; have h_ : (16 : Int) ≤ (l0.length : Int) := of_decide_eq_true (by first | (with_reducible assumption) | assumption); omega)] <;> rfl) | rfl | (simp only [List.length_drop, List.length_take]; rfl)) ?_
           with_reducible refine (fairleadref04_number.calls k _ _ ((l0.take 16).drop 8) t418 _ ?side1 ?side2 A15.out).mono ?_
           (case side1 => repeat (first | exact (Kd.C_below HR417.out (by repeat (first | (with_reducible first | exact HB.out | apply below_alloc | apply pw_below_drewN | apply below_drew1 | refine below_set ?_ GE412.out | refine below_set ?_ GE419.out) | exact HB.out))) | (with_reducible refine Kd.C_alloc ?_ _) | (with_reducible refine Kd.C_drewN ?_ _) | (with_reducible refine Kd.C_drew ?_)))
           (case side2 => exact HC417.out)
           rintro e w' ⟨rfl, ⟨nd, rfl⟩⟩
           refine ⟨_, rfl, ?_⟩
           refine hK.out _ _ trivial (fun hHeld => ?_)
           clear hK K
           refine norm_ (a' := ?_) ?_ ?_
           rotate_left
           ·show Act.put _ (some 24) _ = _
            simp only [Act.put, List.setIfInBounds_toArray, List.set_cons_zero, List.set_cons_succ, i64_w, i32_w]
            rfl
           refine Mine.pS 11 (some 25) ?_ (hc := any_of HT_.out (by kernel_rfl))
           exact norm_ (by simp only [putAll, Act.put, List.setIfInBounds_toArray, List.set_cons_zero, List.set_cons_succ] <;> (try simp only [IntKind.wrap_u32])) (hCont (gb419) _ ⟨(by (with_reducible repeat (first | refine blk_drewN ?_ _ | refine blk_drew ?_ | refine blk_alloc ?_ _)); exact BK412.out), (by (with_reducible repeat (first | refine blk_drewN ?_ _ | refine blk_drew ?_ | refine blk_alloc ?_ _)); exact BK419.out), GW419.out, GE419.out, NB412_419.out, NB419_412.out, (by repeat (first | (with_reducible first | exact HB.out | apply below_alloc | apply pw_below_drewN | apply below_drew1 | refine below_set ?_ GE412.out | refine below_set ?_ GE419.out) | exact HB.out))⟩)
         ·skip
          refine box_step ?hg (N := 4) ?hd (cs := #[.int .u32 0, .int .u32 0, .int .u64 0, .int .u64 0, .int .u64 0, .int .u64 0, .int .u64 0, .int .u64 0, .int .u64 0]) (t := 26) ?hr ?_; (case hd => rfl); (case hg => rfl); (case hr => first | (go_simp; done) | (go_simp; rfl))
          intro gb419 hg w21 hbox hb
          have n0_ := Aside0.mk (blk_below (g := gb412) (o := .cells #[.int .u32 0, .int .u32 0, .int .u64 0, .int .u64 0, .int .u64 0, .int .u64 0, .int .u64 0, .int .u64 0, .int .u64 0] 26 (0, 0)) (by (with_reducible repeat (first | refine blk_drewN ?_ _ | refine blk_drew ?_ | refine blk_alloc ?_ _)); exact BK412.out) hb)
          have n1_ := Aside0.mk (below_step (by repeat (first | (with_reducible first | exact HB.out | apply below_alloc | apply pw_below_drewN | apply below_drew1 | refine below_set ?_ GE412.out) | exact HB.out)) hb)
          have n2_ := Aside0.mk (hbox)
          have n3_ := Aside0.mk ((by rw [hg]; exact (below_size (by repeat (first | (with_reducible first | exact HB.out | apply below_alloc | apply pw_below_drewN | apply below_drew1 | refine below_set ?_ GE412.out) | exact HB.out))) : w.heap.size ≤ gb419))
          have n4_ := Aside0.mk ((by rw [hg]; exact (below_size (by repeat (first | (with_reducible first | exact HB.out | apply below_alloc | apply pw_below_drewN | apply below_drew1 | refine below_set ?_ GE412.out) | exact HB.out))) : w.heap.size ≤ gb419))
          have n5_ := Aside0.mk ((by rw [hg]; exact Nat.ne_of_lt (blk_lt (g := gb412) (o := .cells #[.int .u32 0, .int .u32 0, .int .u64 0, .int .u64 0, .int .u64 0, .int .u64 0, .int .u64 0, .int .u64 0, .int .u64 0] 26 (0, 0)) (by (with_reducible repeat (first | refine blk_drewN ?_ _ | refine blk_drew ?_ | refine blk_alloc ?_ _)); exact BK412.out)) : gb412 ≠ gb419))
          have n6_ := Aside0.mk ((by rw [hg]; exact Nat.ne_of_gt (blk_lt (g := gb412) (o := .cells #[.int .u32 0, .int .u32 0, .int .u64 0, .int .u64 0, .int .u64 0, .int .u64 0, .int .u64 0, .int .u64 0, .int .u64 0] 26 (0, 0)) (by (with_reducible repeat (first | refine blk_drewN ?_ _ | refine blk_drew ?_ | refine blk_alloc ?_ _)); exact BK412.out)) : gb419 ≠ gb412))
          clear BK412
          clear HB
          have BK412 := n0_
          have HB := n1_
          have BK419 := n2_
          have GW419 := n3_
          have GE419 := n4_
          have NB412_419 := n5_
          have NB419_412 := n6_
          clear n0_ n1_ n2_ n3_ n4_ n5_ n6_
          clear hb hbox hg
          refine hK.out _ _ trivial (fun hHeld => ?_)
          clear hK K
          refine norm_ (a' := ?_) ?_ ?_
          rotate_left
          ·show Act.put _ (some 4) _ = _
           simp only [Act.put, List.setIfInBounds_toArray, List.set_cons_zero, List.set_cons_succ, i64_w, i32_w]
           rfl
          refine one_ (i := 2) (N := some 16) #[true, true, true, false, true, true, false, false, true, true, false, false, true, false] rfl rfl (one_of HT_.out (by kernel_rfl)) (by decide) (fun K hK => ?_)
          refine goes_ Try.func39 (by kernel_rfl) rfl #[.slice A0 (l0.take 4).length c0] (by rfl) rfl rfl (by (try simp only [List.map_toArray, List.map_cons, List.map_nil]); first | done | (rw [show (l0.take 4).length = 4 from (by rw [List.length_take]; have h_ : (4 : Int) ≤ (l0.length : Int) := of_decide_eq_true (by first | (with_reducible assumption) | assumption); omega)] <;> rfl) | rfl | (simp only [List.length_drop, List.length_take]; rfl)) ?_
          with_reducible refine (fairleadref04_number.calls k _ _ (l0.take 4) t414 _ ?side1 ?side2 A9.out).mono ?_
          (case side1 => repeat (first | exact (Kd.C_below HR413.out HB.out) | (with_reducible refine Kd.C_alloc ?_ _) | (with_reducible refine Kd.C_drewN ?_ _) | (with_reducible refine Kd.C_drew ?_)))
          (case side2 => exact HC413.out)
          rintro e w' ⟨rfl, ⟨nd, rfl⟩⟩
          refine ⟨_, rfl, ?_⟩
          refine hK.out _ _ trivial (fun hHeld => ?_)
          clear hK K
          refine norm_ (a' := ?_) ?_ ?_
          rotate_left
          ·show Act.put _ (some 16) _ = _
           simp only [Act.put, List.setIfInBounds_toArray, List.set_cons_zero, List.set_cons_succ, i64_w, i32_w]
           rfl
          refine Mine.pS 3 (some 17) ?_ (hc := any_of HT_.out (by kernel_rfl))
          refine one_ (i := 6) (N := some 20) #[true, true, true, true, true, true, true, false, true, true, false, false, true, false] rfl rfl (one_of HT_.out (by kernel_rfl)) (by decide) (fun K hK => ?_)
          refine goes_ Try.func39 (by kernel_rfl) rfl #[.slice A19 ((l0.take 8).drop 4).length (c0 - 4)] (by rfl) rfl rfl (by (try simp only [List.map_toArray, List.map_cons, List.map_nil]); first | done | (rw [show ((l0.take 8).drop 4).length = (8 - 4) from (by rw [List.length_drop, List.length_take]; have h_ : (8 : Int) ≤ (l0.length : Int) := of_decide_eq_true (by first | (with_reducible assumption) | assumption); omega)] <;> rfl) | rfl | (simp only [List.length_drop, List.length_take]; rfl)) ?_
          with_reducible refine (fairleadref04_number.calls k _ _ ((l0.take 8).drop 4) t416 _ ?side1 ?side2 A12.out).mono ?_
          (case side1 => repeat (first | exact (Kd.C_below HR415.out (by repeat (first | (with_reducible first | exact HB.out | apply below_alloc | apply pw_below_drewN | apply below_drew1 | refine below_set ?_ GE412.out | refine below_set ?_ GE419.out) | exact HB.out))) | (with_reducible refine Kd.C_alloc ?_ _) | (with_reducible refine Kd.C_drewN ?_ _) | (with_reducible refine Kd.C_drew ?_)))
          (case side2 => exact HC415.out)
          rintro e w' ⟨rfl, ⟨nd, rfl⟩⟩
          refine ⟨_, rfl, ?_⟩
          refine hK.out _ _ trivial (fun hHeld => ?_)
          clear hK K
          refine norm_ (a' := ?_) ?_ ?_
          rotate_left
          ·show Act.put _ (some 20) _ = _
           simp only [Act.put, List.setIfInBounds_toArray, List.set_cons_zero, List.set_cons_succ, i64_w, i32_w]
           rfl
          refine Mine.pS 7 (some 21) ?_ (hc := any_of HT_.out (by kernel_rfl))
          refine one_ (i := 10) (N := some 24) #[true, true, true, true, true, true, true, true, true, true, true, false, true, false] rfl rfl (one_of HT_.out (by kernel_rfl)) (by decide) (fun K hK => ?_)
          refine goes_ Try.func39 (by kernel_rfl) rfl #[.slice A20 ((l0.take 16).drop 8).length (c0 - 8)] (by rfl) rfl rfl (by (try simp only [List.map_toArray, List.map_cons, List.map_nil]); first | done | (rw [show ((l0.take 16).drop 8).length = (16 - 8) from (by rw [List.length_drop, List.length_take]; have h_ : (16 : Int) ≤ (l0.length : Int) := of_decide_eq_true (by first | (with_reducible assumption) | assumption); omega)] <;> rfl) | rfl | (simp only [List.length_drop, List.length_take]; rfl)) ?_
          with_reducible refine (fairleadref04_number.calls k _ _ ((l0.take 16).drop 8) t418 _ ?side1 ?side2 A15.out).mono ?_
          (case side1 => repeat (first | exact (Kd.C_below HR417.out (by repeat (first | (with_reducible first | exact HB.out | apply below_alloc | apply pw_below_drewN | apply below_drew1 | refine below_set ?_ GE412.out | refine below_set ?_ GE419.out) | exact HB.out))) | (with_reducible refine Kd.C_alloc ?_ _) | (with_reducible refine Kd.C_drewN ?_ _) | (with_reducible refine Kd.C_drew ?_)))
          (case side2 => exact HC417.out)
          rintro e w' ⟨rfl, ⟨nd, rfl⟩⟩
          refine ⟨_, rfl, ?_⟩
          refine hK.out _ _ trivial (fun hHeld => ?_)
          clear hK K
          refine norm_ (a' := ?_) ?_ ?_
          rotate_left
          ·show Act.put _ (some 24) _ = _
           simp only [Act.put, List.setIfInBounds_toArray, List.set_cons_zero, List.set_cons_succ, i64_w, i32_w]
           rfl
          refine Mine.pS 11 (some 25) ?_ (hc := any_of HT_.out (by kernel_rfl))
          exact norm_ (by simp only [putAll, Act.put, List.setIfInBounds_toArray, List.set_cons_zero, List.set_cons_succ] <;> (try simp only [IntKind.wrap_u32])) (hCont (gb419) _ ⟨(by (with_reducible repeat (first | refine blk_drewN ?_ _ | refine blk_drew ?_ | refine blk_alloc ?_ _)); exact BK412.out), (by (with_reducible repeat (first | refine blk_drewN ?_ _ | refine blk_drew ?_ | refine blk_alloc ?_ _)); exact BK419.out), GW419.out, GE419.out, NB412_419.out, NB419_412.out, (by repeat (first | (with_reducible first | exact HB.out | apply below_alloc | apply pw_below_drewN | apply below_drew1 | refine below_set ?_ GE412.out | refine below_set ?_ GE419.out) | exact HB.out))⟩)
        rintro gb419 w22 ⟨h0_, h1_, h2_, h3_, h4_, h5_, h6_⟩
        have n0_ : Aside0 (w22.heap[gb412]? = some (.cells #[.int .u32 0, .int .u32 0, .int .u64 0, .int .u64 0, .int .u64 0, .int .u64 0, .int .u64 0, .int .u64 0, .int .u64 0] 26 (0, 0))) := ⟨h0_⟩
        have n1_ : Aside0 (w22.heap[gb419]? = some (.cells #[.int .u32 0, .int .u32 0, .int .u64 0, .int .u64 0, .int .u64 0, .int .u64 0, .int .u64 0, .int .u64 0, .int .u64 0] 26 (0, 0))) := ⟨h1_⟩
        have n2_ : Aside0 (w.heap.size ≤ gb419) := ⟨h2_⟩
        have n3_ : Aside0 (w.heap.size ≤ gb419) := ⟨h3_⟩
        have n4_ : Aside0 (gb412 ≠ gb419) := ⟨h4_⟩
        have n5_ : Aside0 (gb419 ≠ gb412) := ⟨h5_⟩
        have n6_ : Aside0 (Below w.heap.size w w22) := ⟨h6_⟩
        clear BK412
        clear HB
        clear h0_ h1_ h2_ h3_ h4_ h5_ h6_
        have BK412 := n0_
        have BK419 := n1_
        have GW419 := n2_
        have GE419 := n3_
        have NB412_419 := n4_
        have NB419_412 := n5_
        have HB := n6_
        clear n0_ n1_ n2_ n3_ n4_ n5_ n6_
        have hHeld := trivial
        refine norm_ (a' := ?_) ?_ ?_
        rotate_left
        ·simp only [putAll, Act.put, List.setIfInBounds_toArray, List.set_cons_zero, List.set_cons_succ]
         rfl
        refine one_ (i := 13) (N := none) #[true, true, true, true, true, true, true, true, true, true, true, true, true, true] rfl rfl (one_of HT_.out (by kernel_rfl)) (by decide) (fun K hK => ?_)
        have hs23 : w22.cell? ⟨gb419, 0, none⟩ = some (.int .u32 0) := (blk_cell BK419.out 0).trans rfl
        have hfs23 := blk_frozen BK419.out 0
        have hns23_0 := NB412_419.out
        have hms23_0 := NB419_412.out
        have hs24 : w22.cell? ⟨gb419, 1, none⟩ = some (.int .u32 0) := (blk_cell BK419.out 1).trans rfl
        have hfs24 := blk_frozen BK419.out 1
        have hns24_0 := NB412_419.out
        have hms24_0 := NB419_412.out
        have hs25 : w22.cell? ⟨gb419, 2, none⟩ = some (.int .u64 0) := (blk_cell BK419.out 2).trans rfl
        have hfs25 := blk_frozen BK419.out 2
        have hns25_0 := NB412_419.out
        have hms25_0 := NB419_412.out
        have hs26 : w22.cell? ⟨gb419, 3, none⟩ = some (.int .u64 0) := (blk_cell BK419.out 3).trans rfl
        have hfs26 := blk_frozen BK419.out 3
        have hns26_0 := NB412_419.out
        have hms26_0 := NB419_412.out
        have hs27 : w22.cell? ⟨gb419, 4, none⟩ = some (.int .u64 0) := (blk_cell BK419.out 4).trans rfl
        have hfs27 := blk_frozen BK419.out 4
        have hns27_0 := NB412_419.out
        have hms27_0 := NB419_412.out
        have hs28 : w22.cell? ⟨gb419, 5, none⟩ = some (.int .u64 0) := (blk_cell BK419.out 5).trans rfl
        have hfs28 := blk_frozen BK419.out 5
        have hns28_0 := NB412_419.out
        have hms28_0 := NB419_412.out
        have hs29 : w22.cell? ⟨gb419, 6, none⟩ = some (.int .u64 0) := (blk_cell BK419.out 6).trans rfl
        have hfs29 := blk_frozen BK419.out 6
        have hns29_0 := NB412_419.out
        have hms29_0 := NB419_412.out
        have hs30 : w22.cell? ⟨gb419, 7, none⟩ = some (.int .u64 0) := (blk_cell BK419.out 7).trans rfl
        have hfs30 := blk_frozen BK419.out 7
        have hns30_0 := NB412_419.out
        have hms30_0 := NB419_412.out
        have hs31 : w22.cell? ⟨gb419, 8, none⟩ = some (.int .u64 0) := (blk_cell BK419.out 8).trans rfl
        have hfs31 := blk_frozen BK419.out 8
        have hns31_0 := NB412_419.out
        have hms31_0 := NB419_412.out
        refine skip_ (w1 := ?_) (by rfl) rfl ?_ ?_
        rotate_left
        ·go_simp
         rfl
        refine hK.out _ _ trivial (fun hHeld => ?_)
        clear hK K
        refine done_ (done_of HT_.out (by kernel_rfl)) ?_
        try go_wp2
        go_loopg [5] k (fun kq v5 w' => ∃ (x5_1 : Int) (Z9 : Int) (Za : Int) (Zb : Int) (Zc : Int) (Zd : Int) (Ze : Int), v5 = .int .i64 x5_1 ∧ Aside0 (fairleadref04_Of.l0 kq l0 x5_1 ((t414) % 4294967296) ((t416) % 4294967296) t418 Z9 Za Zb Zc Zd Ze = some (r1, r2, r3, r4, r5, r6, r7, r8, r9, r10)) ∧ Aside0 (kq ≤ k) ∧ Aside0 (w'.heap[gb412]? = some (.cells #[.int .u32 0, .int .u32 0, .int .u64 0, .int .u64 0, .int .u64 0, .int .u64 0, .int .u64 0, .int .u64 0, .int .u64 0] 26 (0, 0))) ∧ Aside0 (w'.heap[gb419]? = some (.cells #[.int .u32 ((t414) % 4294967296), .int .u32 ((t416) % 4294967296), .int .u64 t418, .int .u64 Z9, .int .u64 Za, .int .u64 Zb, .int .u64 Zc, .int .u64 Zd, .int .u64 Ze] 26 (0, 0))) ∧ Aside0 (Below w.heap.size w w'))
        case atStart => exact ⟨(0), (0), (0), (0), (0), (0), (0), (by first | rfl | (simp; done) | (simp [*]; done)), H', ⟨Nat.le_refl _⟩, ⟨by (with_reducible repeat (first | refine blk_drewN ?_ _ | refine blk_drew ?_ | refine blk_alloc ?_ _)); refine blk_far ?_ NB412_419.out _; (with_reducible repeat (first | refine blk_drewN ?_ _ | refine blk_drew ?_ | refine blk_alloc ?_ _)); refine blk_far ?_ NB412_419.out _; (with_reducible repeat (first | refine blk_drewN ?_ _ | refine blk_drew ?_ | refine blk_alloc ?_ _)); refine blk_far ?_ NB412_419.out _; (with_reducible repeat (first | refine blk_drewN ?_ _ | refine blk_drew ?_ | refine blk_alloc ?_ _)); refine blk_far ?_ NB412_419.out _; (with_reducible repeat (first | refine blk_drewN ?_ _ | refine blk_drew ?_ | refine blk_alloc ?_ _)); refine blk_far ?_ NB412_419.out _; (with_reducible repeat (first | refine blk_drewN ?_ _ | refine blk_drew ?_ | refine blk_alloc ?_ _)); refine blk_far ?_ NB412_419.out _; (with_reducible repeat (first | refine blk_drewN ?_ _ | refine blk_drew ?_ | refine blk_alloc ?_ _)); refine blk_far ?_ NB412_419.out _; (with_reducible repeat (first | refine blk_drewN ?_ _ | refine blk_drew ?_ | refine blk_alloc ?_ _)); refine blk_far ?_ NB412_419.out _; (with_reducible repeat (first | refine blk_drewN ?_ _ | refine blk_drew ?_ | refine blk_alloc ?_ _)); refine blk_far ?_ NB412_419.out _; (with_reducible repeat (first | refine blk_drewN ?_ _ | refine blk_drew ?_ | refine blk_alloc ?_ _)); exact BK412.out⟩, ⟨by (with_reducible repeat (first | refine blk_drewN ?_ _ | refine blk_drew ?_ | refine blk_alloc ?_ _)); refine blk_put (cs := #[.int .u32 ((t414) % 4294967296), .int .u32 ((t416) % 4294967296), .int .u64 t418, .int .u64 0, .int .u64 0, .int .u64 0, .int .u64 0, .int .u64 0, .int .u64 0]) ?_ 8 _ rfl; (with_reducible repeat (first | refine blk_drewN ?_ _ | refine blk_drew ?_ | refine blk_alloc ?_ _)); refine blk_put (cs := #[.int .u32 ((t414) % 4294967296), .int .u32 ((t416) % 4294967296), .int .u64 t418, .int .u64 0, .int .u64 0, .int .u64 0, .int .u64 0, .int .u64 0, .int .u64 0]) ?_ 7 _ rfl; (with_reducible repeat (first | refine blk_drewN ?_ _ | refine blk_drew ?_ | refine blk_alloc ?_ _)); refine blk_put (cs := #[.int .u32 ((t414) % 4294967296), .int .u32 ((t416) % 4294967296), .int .u64 t418, .int .u64 0, .int .u64 0, .int .u64 0, .int .u64 0, .int .u64 0, .int .u64 0]) ?_ 6 _ rfl; (with_reducible repeat (first | refine blk_drewN ?_ _ | refine blk_drew ?_ | refine blk_alloc ?_ _)); refine blk_put (cs := #[.int .u32 ((t414) % 4294967296), .int .u32 ((t416) % 4294967296), .int .u64 t418, .int .u64 0, .int .u64 0, .int .u64 0, .int .u64 0, .int .u64 0, .int .u64 0]) ?_ 5 _ rfl; (with_reducible repeat (first | refine blk_drewN ?_ _ | refine blk_drew ?_ | refine blk_alloc ?_ _)); refine blk_put (cs := #[.int .u32 ((t414) % 4294967296), .int .u32 ((t416) % 4294967296), .int .u64 t418, .int .u64 0, .int .u64 0, .int .u64 0, .int .u64 0, .int .u64 0, .int .u64 0]) ?_ 4 _ rfl; (with_reducible repeat (first | refine blk_drewN ?_ _ | refine blk_drew ?_ | refine blk_alloc ?_ _)); refine blk_put (cs := #[.int .u32 ((t414) % 4294967296), .int .u32 ((t416) % 4294967296), .int .u64 t418, .int .u64 0, .int .u64 0, .int .u64 0, .int .u64 0, .int .u64 0, .int .u64 0]) ?_ 3 _ rfl; (with_reducible repeat (first | refine blk_drewN ?_ _ | refine blk_drew ?_ | refine blk_alloc ?_ _)); refine blk_put (cs := #[.int .u32 ((t414) % 4294967296), .int .u32 ((t416) % 4294967296), .int .u64 0, .int .u64 0, .int .u64 0, .int .u64 0, .int .u64 0, .int .u64 0, .int .u64 0]) ?_ 2 _ rfl; (with_reducible repeat (first | refine blk_drewN ?_ _ | refine blk_drew ?_ | refine blk_alloc ?_ _)); refine blk_put (cs := #[.int .u32 ((t414) % 4294967296), .int .u32 0, .int .u64 0, .int .u64 0, .int .u64 0, .int .u64 0, .int .u64 0, .int .u64 0, .int .u64 0]) ?_ 1 _ rfl; (with_reducible repeat (first | refine blk_drewN ?_ _ | refine blk_drew ?_ | refine blk_alloc ?_ _)); refine blk_put (cs := #[.int .u32 0, .int .u32 0, .int .u64 0, .int .u64 0, .int .u64 0, .int .u64 0, .int .u64 0, .int .u64 0, .int .u64 0]) ?_ 0 _ rfl; (with_reducible repeat (first | refine blk_drewN ?_ _ | refine blk_drew ?_ | refine blk_alloc ?_ _)); exact BK419.out⟩, ⟨by repeat (first | (with_reducible first | exact HB.out | apply below_alloc | apply pw_below_drewN | apply below_drew1 | refine below_set ?_ GE412.out | refine below_set ?_ GE419.out) | exact HB.out)⟩⟩
        case round =>
         clear H'
         try clear c1
         try clear c2
         try clear c2b0
         try clear c2b1
         try clear p2
         try clear c3
         try clear c5
         try clear c5b0
         try clear c5b1
         try clear c8
         try clear c8b0
         try clear c8b1
         try clear c10
         try clear c10b0
         try clear c10b1
         try clear c11
         try clear c11b0
         try clear c11b1
         try clear c13
         try clear c13b0
         try clear c13b1
         try clear c14
         try clear c14b0
         try clear c14b1
         try clear c30
         try clear hcz4
         try clear hcz7
         try clear hfz4_0
         try clear hfz7_0
         obtain ⟨x5_1, Z9, Za, Zb, Zc, Zd, Ze, rfl, HA, HK1, BK412, BK419, HB⟩ := hrel
         cases gk with
         | zero => exact absurd HA.out (by simp [fairleadref04_Of.l0])
         | succ k1 =>
          have H := HA.out
          clear HA
          simp only [fairleadref04_Of.l0] at H
          by_cases c32 : x5_1 < 6
          ·rw [if_pos c32] at H
           have c32b0 : decide (x5_1 < 6) = true := decide_eq_true c32
           clear c32
           by_cases c33 : x5_1 = 0
           ·rw [if_pos c33] at H
            subst c33
            by_cases c34 : 16 ≤ 24
            ·rw [if_pos c34] at H
             have c34b0 := eq_true c34
             have c34b1 : decide (16 ≤ 24) = true := decide_eq_true c34
             clear c34
             by_cases c35 : 24 ≤ (l0.length : Int)
             ·rw [if_pos c35] at H
              have c35b0 := eq_true c35
              have c35b1 : decide (24 ≤ (l0.length : Int)) = true := decide_eq_true c35
              clear c35
              replace H := Option.bind_eq_some_iff.mp H
              obtain ⟨t421, A360, H⟩ := H
              replace H : (fairleadref04_Of.l0 k1 l0 1 ((t414) % 4294967296) ((t416) % 4294967296) t418 t421 Za Zb Zc Zd Ze) = some (r1, r2, r3, r4, r5, r6, r7, r8, r9, r10) := H
              have A36 := Aside0.mk A360
              clear A360
              have H' := Aside0.mk H
              clear H
              obtain ⟨i037, hi037, _, hsz37, _⟩ := info_parts info5
              obtain ⟨A37, hcut37, hA37, hC37⟩ := print_mid_of (P := Try.prog) (Value.int .u8) 0 30 5 .i64 .i64 Try.underlying30 hi037 hsz37 A0 c0 l0 16 24 (by omega) (by first | omega | exact of_decide_eq_true (by first | (with_reducible assumption) | assumption)) (of_decide_eq_true (by first | (with_reducible assumption) | assumption)) HC0.out
              have HR420 := Aside0.mk (Kd.C_of_reads (h1 := fun _ => rfl) (hA37 _ (Kd.reads_of_C HR0.out)))
              have HC420 := Aside0.mk hC37
              clear hA37 hC37 hi037 hsz37
              go_wp2_with (first | ((with_reducible refine gate_callee (f := 39) rfl ?_); refine goesL_ (some 39) rfl rfl Try.func39 (by kernel_rfl) rfl #[.slice A37 ((l0.take 24).drop 16).length (c0 - 16)] rfl (by (try simp only [List.map_toArray, List.map_cons, List.map_nil]); first | done | (rw [show ((l0.take 24).drop 16).length = (24 - 16) from (by rw [List.length_drop, List.length_take]; have h_ : (24 : Int) ≤ (l0.length : Int) := of_decide_eq_true (by first | (with_reducible assumption) | assumption); omega)] <;> rfl) | rfl | (simp only [List.length_drop, List.length_take]; rfl)) ?_; (with_reducible refine (fairleadref04_number.calls k1 _ _ ((l0.take 24).drop 16) t421 _ ?side1 ?side2 A36.out).mono ?_); (case side1 => repeat (first | exact (Kd.C_below HR420.out HB.out) | (with_reducible refine Kd.C_alloc ?_ _) | (with_reducible refine Kd.C_drewN ?_ _) | (with_reducible refine Kd.C_drew ?_))); (case side2 => exact HC420.out); rintro e w' ⟨rfl, ⟨nd, rfl⟩⟩; refine ⟨_, rfl, ?_⟩; (try (rw [drewN_self wr]; generalize hq_ : World.drewN wr _ = wr; have n0_ : Aside0 (wr.heap[gb412]? = some (.cells #[.int .u32 0, .int .u32 0, .int .u64 0, .int .u64 0, .int .u64 0, .int .u64 0, .int .u64 0, .int .u64 0, .int .u64 0] 26 (0, 0))) := ⟨by rw [← hq_]; exact (by (with_reducible repeat (first | refine blk_drewN ?_ _ | refine blk_drew ?_ | refine blk_alloc ?_ _)); exact BK412.out)⟩; have n1_ : Aside0 (wr.heap[gb419]? = some (.cells #[.int .u32 ((t414) % 4294967296), .int .u32 ((t416) % 4294967296), .int .u64 t418, .int .u64 Z9, .int .u64 Za, .int .u64 Zb, .int .u64 Zc, .int .u64 Zd, .int .u64 Ze] 26 (0, 0))) := ⟨by rw [← hq_]; exact (by (with_reducible repeat (first | refine blk_drewN ?_ _ | refine blk_drew ?_ | refine blk_alloc ?_ _)); exact BK419.out)⟩; have n2_ : Aside0 (Below w.heap.size w wr) := ⟨by rw [← hq_]; exact (by repeat (first | (with_reducible first | exact HB.out | apply below_alloc | apply pw_below_drewN | apply below_drew1 | refine below_set ?_ GE412.out | refine below_set ?_ GE419.out) | exact HB.out))⟩; clear BK412 BK419 HB hq_; have BK412 := n0_; have BK419 := n1_; have HB := n2_; clear n0_ n1_ n2_)); have hnb38 := NB419_412.out; have hnc38 := NB412_419.out; have hcz39 := Mine.cells9 BK419.out; have hfz39_0 := blk_frozen BK419.out))
              go_roundg k1
              case measure => have := HK1.out; omega
              case rel => exact ⟨(1), (t421), (Za), (Zb), (Zc), (Zd), (Ze), (by first | rfl | (simp; done) | (simp [*]; done)), H', ⟨by have := HK1.out; omega⟩, ⟨by (with_reducible repeat (first | refine blk_drewN ?_ _ | refine blk_drew ?_ | refine blk_alloc ?_ _)); refine blk_far ?_ NB412_419.out _; (with_reducible repeat (first | refine blk_drewN ?_ _ | refine blk_drew ?_ | refine blk_alloc ?_ _)); exact BK412.out⟩, ⟨by (with_reducible repeat (first | refine blk_drewN ?_ _ | refine blk_drew ?_ | refine blk_alloc ?_ _)); refine blk_put (cs := #[.int .u32 ((t414) % 4294967296), .int .u32 ((t416) % 4294967296), .int .u64 t418, .int .u64 Z9, .int .u64 Za, .int .u64 Zb, .int .u64 Zc, .int .u64 Zd, .int .u64 Ze]) ?_ 3 _ rfl; (with_reducible repeat (first | refine blk_drewN ?_ _ | refine blk_drew ?_ | refine blk_alloc ?_ _)); exact BK419.out⟩, ⟨by repeat (first | (with_reducible first | exact HB.out | apply below_alloc | apply pw_below_drewN | apply below_drew1 | refine below_set ?_ GE412.out | refine below_set ?_ GE419.out) | exact HB.out)⟩⟩
             ·rw [if_neg c35] at H
              exact absurd H (by simp)
            ·rw [if_neg c34] at H
             exact absurd H (by simp)
           ·rw [if_neg c33] at H
            clear c33
            by_cases c40 : x5_1 = 1
            ·rw [if_pos c40] at H
             subst c40
             by_cases c41 : 24 ≤ 32
             ·rw [if_pos c41] at H
              have c41b0 := eq_true c41
              have c41b1 : decide (24 ≤ 32) = true := decide_eq_true c41
              clear c41
              by_cases c42 : 32 ≤ (l0.length : Int)
              ·rw [if_pos c42] at H
               have c42b0 := eq_true c42
               have c42b1 : decide (32 ≤ (l0.length : Int)) = true := decide_eq_true c42
               clear c42
               replace H := Option.bind_eq_some_iff.mp H
               obtain ⟨t423, A430, H⟩ := H
               replace H : (fairleadref04_Of.l0 k1 l0 2 ((t414) % 4294967296) ((t416) % 4294967296) t418 Z9 t423 Zb Zc Zd Ze) = some (r1, r2, r3, r4, r5, r6, r7, r8, r9, r10) := H
               have A43 := Aside0.mk A430
               clear A430
               have H' := Aside0.mk H
               clear H
               obtain ⟨i044, hi044, _, hsz44, _⟩ := info_parts info5
               obtain ⟨A44, hcut44, hA44, hC44⟩ := print_mid_of (P := Try.prog) (Value.int .u8) 0 30 5 .i64 .i64 Try.underlying30 hi044 hsz44 A0 c0 l0 24 32 (by omega) (by first | omega | exact of_decide_eq_true (by first | (with_reducible assumption) | assumption)) (of_decide_eq_true (by first | (with_reducible assumption) | assumption)) HC0.out
               have HR422 := Aside0.mk (Kd.C_of_reads (h1 := fun _ => rfl) (hA44 _ (Kd.reads_of_C HR0.out)))
               have HC422 := Aside0.mk hC44
               clear hA44 hC44 hi044 hsz44
               go_wp2_with (first | ((with_reducible refine gate_callee (f := 39) rfl ?_); refine goesL_ (some 39) rfl rfl Try.func39 (by kernel_rfl) rfl #[.slice A44 ((l0.take 32).drop 24).length (c0 - 24)] rfl (by (try simp only [List.map_toArray, List.map_cons, List.map_nil]); first | done | (rw [show ((l0.take 32).drop 24).length = (32 - 24) from (by rw [List.length_drop, List.length_take]; have h_ : (32 : Int) ≤ (l0.length : Int) := of_decide_eq_true (by first | (with_reducible assumption) | assumption); omega)] <;> rfl) | rfl | (simp only [List.length_drop, List.length_take]; rfl)) ?_; (with_reducible refine (fairleadref04_number.calls k1 _ _ ((l0.take 32).drop 24) t423 _ ?side1 ?side2 A43.out).mono ?_); (case side1 => repeat (first | exact (Kd.C_below HR422.out HB.out) | (with_reducible refine Kd.C_alloc ?_ _) | (with_reducible refine Kd.C_drewN ?_ _) | (with_reducible refine Kd.C_drew ?_))); (case side2 => exact HC422.out); rintro e w' ⟨rfl, ⟨nd, rfl⟩⟩; refine ⟨_, rfl, ?_⟩; (try (rw [drewN_self wr]; generalize hq_ : World.drewN wr _ = wr; have n0_ : Aside0 (wr.heap[gb412]? = some (.cells #[.int .u32 0, .int .u32 0, .int .u64 0, .int .u64 0, .int .u64 0, .int .u64 0, .int .u64 0, .int .u64 0, .int .u64 0] 26 (0, 0))) := ⟨by rw [← hq_]; exact (by (with_reducible repeat (first | refine blk_drewN ?_ _ | refine blk_drew ?_ | refine blk_alloc ?_ _)); exact BK412.out)⟩; have n1_ : Aside0 (wr.heap[gb419]? = some (.cells #[.int .u32 ((t414) % 4294967296), .int .u32 ((t416) % 4294967296), .int .u64 t418, .int .u64 Z9, .int .u64 Za, .int .u64 Zb, .int .u64 Zc, .int .u64 Zd, .int .u64 Ze] 26 (0, 0))) := ⟨by rw [← hq_]; exact (by (with_reducible repeat (first | refine blk_drewN ?_ _ | refine blk_drew ?_ | refine blk_alloc ?_ _)); exact BK419.out)⟩; have n2_ : Aside0 (Below w.heap.size w wr) := ⟨by rw [← hq_]; exact (by repeat (first | (with_reducible first | exact HB.out | apply below_alloc | apply pw_below_drewN | apply below_drew1 | refine below_set ?_ GE412.out | refine below_set ?_ GE419.out) | exact HB.out))⟩; clear BK412 BK419 HB hq_; have BK412 := n0_; have BK419 := n1_; have HB := n2_; clear n0_ n1_ n2_)); have hnb45 := NB419_412.out; have hnc45 := NB412_419.out; have hcz46 := Mine.cells9 BK419.out; have hfz46_0 := blk_frozen BK419.out))
               go_roundg k1
               case measure => have := HK1.out; omega
               case rel => exact ⟨(2), (Z9), (t423), (Zb), (Zc), (Zd), (Ze), (by first | rfl | (simp; done) | (simp [*]; done)), H', ⟨by have := HK1.out; omega⟩, ⟨by (with_reducible repeat (first | refine blk_drewN ?_ _ | refine blk_drew ?_ | refine blk_alloc ?_ _)); refine blk_far ?_ NB412_419.out _; (with_reducible repeat (first | refine blk_drewN ?_ _ | refine blk_drew ?_ | refine blk_alloc ?_ _)); exact BK412.out⟩, ⟨by (with_reducible repeat (first | refine blk_drewN ?_ _ | refine blk_drew ?_ | refine blk_alloc ?_ _)); refine blk_put (cs := #[.int .u32 ((t414) % 4294967296), .int .u32 ((t416) % 4294967296), .int .u64 t418, .int .u64 Z9, .int .u64 Za, .int .u64 Zb, .int .u64 Zc, .int .u64 Zd, .int .u64 Ze]) ?_ 4 _ rfl; (with_reducible repeat (first | refine blk_drewN ?_ _ | refine blk_drew ?_ | refine blk_alloc ?_ _)); exact BK419.out⟩, ⟨by repeat (first | (with_reducible first | exact HB.out | apply below_alloc | apply pw_below_drewN | apply below_drew1 | refine below_set ?_ GE412.out | refine below_set ?_ GE419.out) | exact HB.out)⟩⟩
              ·rw [if_neg c42] at H
               exact absurd H (by simp)
             ·rw [if_neg c41] at H
              exact absurd H (by simp)
            ·rw [if_neg c40] at H
             clear c40
             by_cases c47 : x5_1 = 2
             ·rw [if_pos c47] at H
              subst c47
              by_cases c48 : 32 ≤ 40
              ·rw [if_pos c48] at H
               have c48b0 := eq_true c48
               have c48b1 : decide (32 ≤ 40) = true := decide_eq_true c48
               clear c48
               by_cases c49 : 40 ≤ (l0.length : Int)
               ·rw [if_pos c49] at H
                have c49b0 := eq_true c49
                have c49b1 : decide (40 ≤ (l0.length : Int)) = true := decide_eq_true c49
                clear c49
                replace H := Option.bind_eq_some_iff.mp H
                obtain ⟨t425, A500, H⟩ := H
                replace H : (fairleadref04_Of.l0 k1 l0 3 ((t414) % 4294967296) ((t416) % 4294967296) t418 Z9 Za t425 Zc Zd Ze) = some (r1, r2, r3, r4, r5, r6, r7, r8, r9, r10) := H
                have A50 := Aside0.mk A500
                clear A500
                have H' := Aside0.mk H
                clear H
                obtain ⟨i051, hi051, _, hsz51, _⟩ := info_parts info5
                obtain ⟨A51, hcut51, hA51, hC51⟩ := print_mid_of (P := Try.prog) (Value.int .u8) 0 30 5 .i64 .i64 Try.underlying30 hi051 hsz51 A0 c0 l0 32 40 (by omega) (by first | omega | exact of_decide_eq_true (by first | (with_reducible assumption) | assumption)) (of_decide_eq_true (by first | (with_reducible assumption) | assumption)) HC0.out
                have HR424 := Aside0.mk (Kd.C_of_reads (h1 := fun _ => rfl) (hA51 _ (Kd.reads_of_C HR0.out)))
                have HC424 := Aside0.mk hC51
                clear hA51 hC51 hi051 hsz51
                go_wp2_with (first | ((with_reducible refine gate_callee (f := 39) rfl ?_); refine goesL_ (some 39) rfl rfl Try.func39 (by kernel_rfl) rfl #[.slice A51 ((l0.take 40).drop 32).length (c0 - 32)] rfl (by (try simp only [List.map_toArray, List.map_cons, List.map_nil]); first | done | (rw [show ((l0.take 40).drop 32).length = (40 - 32) from (by rw [List.length_drop, List.length_take]; have h_ : (40 : Int) ≤ (l0.length : Int) := of_decide_eq_true (by first | (with_reducible assumption) | assumption); omega)] <;> rfl) | rfl | (simp only [List.length_drop, List.length_take]; rfl)) ?_; (with_reducible refine (fairleadref04_number.calls k1 _ _ ((l0.take 40).drop 32) t425 _ ?side1 ?side2 A50.out).mono ?_); (case side1 => repeat (first | exact (Kd.C_below HR424.out HB.out) | (with_reducible refine Kd.C_alloc ?_ _) | (with_reducible refine Kd.C_drewN ?_ _) | (with_reducible refine Kd.C_drew ?_))); (case side2 => exact HC424.out); rintro e w' ⟨rfl, ⟨nd, rfl⟩⟩; refine ⟨_, rfl, ?_⟩; (try (rw [drewN_self wr]; generalize hq_ : World.drewN wr _ = wr; have n0_ : Aside0 (wr.heap[gb412]? = some (.cells #[.int .u32 0, .int .u32 0, .int .u64 0, .int .u64 0, .int .u64 0, .int .u64 0, .int .u64 0, .int .u64 0, .int .u64 0] 26 (0, 0))) := ⟨by rw [← hq_]; exact (by (with_reducible repeat (first | refine blk_drewN ?_ _ | refine blk_drew ?_ | refine blk_alloc ?_ _)); exact BK412.out)⟩; have n1_ : Aside0 (wr.heap[gb419]? = some (.cells #[.int .u32 ((t414) % 4294967296), .int .u32 ((t416) % 4294967296), .int .u64 t418, .int .u64 Z9, .int .u64 Za, .int .u64 Zb, .int .u64 Zc, .int .u64 Zd, .int .u64 Ze] 26 (0, 0))) := ⟨by rw [← hq_]; exact (by (with_reducible repeat (first | refine blk_drewN ?_ _ | refine blk_drew ?_ | refine blk_alloc ?_ _)); exact BK419.out)⟩; have n2_ : Aside0 (Below w.heap.size w wr) := ⟨by rw [← hq_]; exact (by repeat (first | (with_reducible first | exact HB.out | apply below_alloc | apply pw_below_drewN | apply below_drew1 | refine below_set ?_ GE412.out | refine below_set ?_ GE419.out) | exact HB.out))⟩; clear BK412 BK419 HB hq_; have BK412 := n0_; have BK419 := n1_; have HB := n2_; clear n0_ n1_ n2_)); have hnb52 := NB419_412.out; have hnc52 := NB412_419.out; have hcz53 := Mine.cells9 BK419.out; have hfz53_0 := blk_frozen BK419.out))
                go_roundg k1
                case measure => have := HK1.out; omega
                case rel => exact ⟨(3), (Z9), (Za), (t425), (Zc), (Zd), (Ze), (by first | rfl | (simp; done) | (simp [*]; done)), H', ⟨by have := HK1.out; omega⟩, ⟨by (with_reducible repeat (first | refine blk_drewN ?_ _ | refine blk_drew ?_ | refine blk_alloc ?_ _)); refine blk_far ?_ NB412_419.out _; (with_reducible repeat (first | refine blk_drewN ?_ _ | refine blk_drew ?_ | refine blk_alloc ?_ _)); exact BK412.out⟩, ⟨by (with_reducible repeat (first | refine blk_drewN ?_ _ | refine blk_drew ?_ | refine blk_alloc ?_ _)); refine blk_put (cs := #[.int .u32 ((t414) % 4294967296), .int .u32 ((t416) % 4294967296), .int .u64 t418, .int .u64 Z9, .int .u64 Za, .int .u64 Zb, .int .u64 Zc, .int .u64 Zd, .int .u64 Ze]) ?_ 5 _ rfl; (with_reducible repeat (first | refine blk_drewN ?_ _ | refine blk_drew ?_ | refine blk_alloc ?_ _)); exact BK419.out⟩, ⟨by repeat (first | (with_reducible first | exact HB.out | apply below_alloc | apply pw_below_drewN | apply below_drew1 | refine below_set ?_ GE412.out | refine below_set ?_ GE419.out) | exact HB.out)⟩⟩
               ·rw [if_neg c49] at H
                exact absurd H (by simp)
              ·rw [if_neg c48] at H
               exact absurd H (by simp)
             ·rw [if_neg c47] at H
              clear c47
              by_cases c54 : x5_1 = 3
              ·rw [if_pos c54] at H
               subst c54
               by_cases c55 : 40 ≤ 48
               ·rw [if_pos c55] at H
                have c55b0 := eq_true c55
                have c55b1 : decide (40 ≤ 48) = true := decide_eq_true c55
                clear c55
                by_cases c56 : 48 ≤ (l0.length : Int)
                ·rw [if_pos c56] at H
                 have c56b0 := eq_true c56
                 have c56b1 : decide (48 ≤ (l0.length : Int)) = true := decide_eq_true c56
                 clear c56
                 replace H := Option.bind_eq_some_iff.mp H
                 obtain ⟨t427, A570, H⟩ := H
                 replace H : (fairleadref04_Of.l0 k1 l0 4 ((t414) % 4294967296) ((t416) % 4294967296) t418 Z9 Za Zb t427 Zd Ze) = some (r1, r2, r3, r4, r5, r6, r7, r8, r9, r10) := H
                 have A57 := Aside0.mk A570
                 clear A570
                 have H' := Aside0.mk H
                 clear H
                 obtain ⟨i058, hi058, _, hsz58, _⟩ := info_parts info5
                 obtain ⟨A58, hcut58, hA58, hC58⟩ := print_mid_of (P := Try.prog) (Value.int .u8) 0 30 5 .i64 .i64 Try.underlying30 hi058 hsz58 A0 c0 l0 40 48 (by omega) (by first | omega | exact of_decide_eq_true (by first | (with_reducible assumption) | assumption)) (of_decide_eq_true (by first | (with_reducible assumption) | assumption)) HC0.out
                 have HR426 := Aside0.mk (Kd.C_of_reads (h1 := fun _ => rfl) (hA58 _ (Kd.reads_of_C HR0.out)))
                 have HC426 := Aside0.mk hC58
                 clear hA58 hC58 hi058 hsz58
                 go_wp2_with (first | ((with_reducible refine gate_callee (f := 39) rfl ?_); refine goesL_ (some 39) rfl rfl Try.func39 (by kernel_rfl) rfl #[.slice A58 ((l0.take 48).drop 40).length (c0 - 40)] rfl (by (try simp only [List.map_toArray, List.map_cons, List.map_nil]); first | done | (rw [show ((l0.take 48).drop 40).length = (48 - 40) from (by rw [List.length_drop, List.length_take]; have h_ : (48 : Int) ≤ (l0.length : Int) := of_decide_eq_true (by first | (with_reducible assumption) | assumption); omega)] <;> rfl) | rfl | (simp only [List.length_drop, List.length_take]; rfl)) ?_; (with_reducible refine (fairleadref04_number.calls k1 _ _ ((l0.take 48).drop 40) t427 _ ?side1 ?side2 A57.out).mono ?_); (case side1 => repeat (first | exact (Kd.C_below HR426.out HB.out) | (with_reducible refine Kd.C_alloc ?_ _) | (with_reducible refine Kd.C_drewN ?_ _) | (with_reducible refine Kd.C_drew ?_))); (case side2 => exact HC426.out); rintro e w' ⟨rfl, ⟨nd, rfl⟩⟩; refine ⟨_, rfl, ?_⟩; (try (rw [drewN_self wr]; generalize hq_ : World.drewN wr _ = wr; have n0_ : Aside0 (wr.heap[gb412]? = some (.cells #[.int .u32 0, .int .u32 0, .int .u64 0, .int .u64 0, .int .u64 0, .int .u64 0, .int .u64 0, .int .u64 0, .int .u64 0] 26 (0, 0))) := ⟨by rw [← hq_]; exact (by (with_reducible repeat (first | refine blk_drewN ?_ _ | refine blk_drew ?_ | refine blk_alloc ?_ _)); exact BK412.out)⟩; have n1_ : Aside0 (wr.heap[gb419]? = some (.cells #[.int .u32 ((t414) % 4294967296), .int .u32 ((t416) % 4294967296), .int .u64 t418, .int .u64 Z9, .int .u64 Za, .int .u64 Zb, .int .u64 Zc, .int .u64 Zd, .int .u64 Ze] 26 (0, 0))) := ⟨by rw [← hq_]; exact (by (with_reducible repeat (first | refine blk_drewN ?_ _ | refine blk_drew ?_ | refine blk_alloc ?_ _)); exact BK419.out)⟩; have n2_ : Aside0 (Below w.heap.size w wr) := ⟨by rw [← hq_]; exact (by repeat (first | (with_reducible first | exact HB.out | apply below_alloc | apply pw_below_drewN | apply below_drew1 | refine below_set ?_ GE412.out | refine below_set ?_ GE419.out) | exact HB.out))⟩; clear BK412 BK419 HB hq_; have BK412 := n0_; have BK419 := n1_; have HB := n2_; clear n0_ n1_ n2_)); have hnb59 := NB419_412.out; have hnc59 := NB412_419.out; have hcz60 := Mine.cells9 BK419.out; have hfz60_0 := blk_frozen BK419.out))
                 go_roundg k1
                 case measure => have := HK1.out; omega
                 case rel => exact ⟨(4), (Z9), (Za), (Zb), (t427), (Zd), (Ze), (by first | rfl | (simp; done) | (simp [*]; done)), H', ⟨by have := HK1.out; omega⟩, ⟨by (with_reducible repeat (first | refine blk_drewN ?_ _ | refine blk_drew ?_ | refine blk_alloc ?_ _)); refine blk_far ?_ NB412_419.out _; (with_reducible repeat (first | refine blk_drewN ?_ _ | refine blk_drew ?_ | refine blk_alloc ?_ _)); exact BK412.out⟩, ⟨by (with_reducible repeat (first | refine blk_drewN ?_ _ | refine blk_drew ?_ | refine blk_alloc ?_ _)); refine blk_put (cs := #[.int .u32 ((t414) % 4294967296), .int .u32 ((t416) % 4294967296), .int .u64 t418, .int .u64 Z9, .int .u64 Za, .int .u64 Zb, .int .u64 Zc, .int .u64 Zd, .int .u64 Ze]) ?_ 6 _ rfl; (with_reducible repeat (first | refine blk_drewN ?_ _ | refine blk_drew ?_ | refine blk_alloc ?_ _)); exact BK419.out⟩, ⟨by repeat (first | (with_reducible first | exact HB.out | apply below_alloc | apply pw_below_drewN | apply below_drew1 | refine below_set ?_ GE412.out | refine below_set ?_ GE419.out) | exact HB.out)⟩⟩
                ·rw [if_neg c56] at H
                 exact absurd H (by simp)
               ·rw [if_neg c55] at H
                exact absurd H (by simp)
              ·rw [if_neg c54] at H
               clear c54
               by_cases c61 : x5_1 = 4
               ·rw [if_pos c61] at H
                subst c61
                by_cases c62 : 48 ≤ 56
                ·rw [if_pos c62] at H
                 have c62b0 := eq_true c62
                 have c62b1 : decide (48 ≤ 56) = true := decide_eq_true c62
                 clear c62
                 by_cases c63 : 56 ≤ (l0.length : Int)
                 ·rw [if_pos c63] at H
                  have c63b0 := eq_true c63
                  have c63b1 : decide (56 ≤ (l0.length : Int)) = true := decide_eq_true c63
                  clear c63
                  replace H := Option.bind_eq_some_iff.mp H
                  obtain ⟨t429, A640, H⟩ := H
                  replace H : (fairleadref04_Of.l0 k1 l0 5 ((t414) % 4294967296) ((t416) % 4294967296) t418 Z9 Za Zb Zc t429 Ze) = some (r1, r2, r3, r4, r5, r6, r7, r8, r9, r10) := H
                  have A64 := Aside0.mk A640
                  clear A640
                  have H' := Aside0.mk H
                  clear H
                  obtain ⟨i065, hi065, _, hsz65, _⟩ := info_parts info5
                  obtain ⟨A65, hcut65, hA65, hC65⟩ := print_mid_of (P := Try.prog) (Value.int .u8) 0 30 5 .i64 .i64 Try.underlying30 hi065 hsz65 A0 c0 l0 48 56 (by omega) (by first | omega | exact of_decide_eq_true (by first | (with_reducible assumption) | assumption)) (of_decide_eq_true (by first | (with_reducible assumption) | assumption)) HC0.out
                  have HR428 := Aside0.mk (Kd.C_of_reads (h1 := fun _ => rfl) (hA65 _ (Kd.reads_of_C HR0.out)))
                  have HC428 := Aside0.mk hC65
                  clear hA65 hC65 hi065 hsz65
                  go_wp2_with (first | ((with_reducible refine gate_callee (f := 39) rfl ?_); refine goesL_ (some 39) rfl rfl Try.func39 (by kernel_rfl) rfl #[.slice A65 ((l0.take 56).drop 48).length (c0 - 48)] rfl (by (try simp only [List.map_toArray, List.map_cons, List.map_nil]); first | done | (rw [show ((l0.take 56).drop 48).length = (56 - 48) from (by rw [List.length_drop, List.length_take]; have h_ : (56 : Int) ≤ (l0.length : Int) := of_decide_eq_true (by first | (with_reducible assumption) | assumption); omega)] <;> rfl) | rfl | (simp only [List.length_drop, List.length_take]; rfl)) ?_; (with_reducible refine (fairleadref04_number.calls k1 _ _ ((l0.take 56).drop 48) t429 _ ?side1 ?side2 A64.out).mono ?_); (case side1 => repeat (first | exact (Kd.C_below HR428.out HB.out) | (with_reducible refine Kd.C_alloc ?_ _) | (with_reducible refine Kd.C_drewN ?_ _) | (with_reducible refine Kd.C_drew ?_))); (case side2 => exact HC428.out); rintro e w' ⟨rfl, ⟨nd, rfl⟩⟩; refine ⟨_, rfl, ?_⟩; (try (rw [drewN_self wr]; generalize hq_ : World.drewN wr _ = wr; have n0_ : Aside0 (wr.heap[gb412]? = some (.cells #[.int .u32 0, .int .u32 0, .int .u64 0, .int .u64 0, .int .u64 0, .int .u64 0, .int .u64 0, .int .u64 0, .int .u64 0] 26 (0, 0))) := ⟨by rw [← hq_]; exact (by (with_reducible repeat (first | refine blk_drewN ?_ _ | refine blk_drew ?_ | refine blk_alloc ?_ _)); exact BK412.out)⟩; have n1_ : Aside0 (wr.heap[gb419]? = some (.cells #[.int .u32 ((t414) % 4294967296), .int .u32 ((t416) % 4294967296), .int .u64 t418, .int .u64 Z9, .int .u64 Za, .int .u64 Zb, .int .u64 Zc, .int .u64 Zd, .int .u64 Ze] 26 (0, 0))) := ⟨by rw [← hq_]; exact (by (with_reducible repeat (first | refine blk_drewN ?_ _ | refine blk_drew ?_ | refine blk_alloc ?_ _)); exact BK419.out)⟩; have n2_ : Aside0 (Below w.heap.size w wr) := ⟨by rw [← hq_]; exact (by repeat (first | (with_reducible first | exact HB.out | apply below_alloc | apply pw_below_drewN | apply below_drew1 | refine below_set ?_ GE412.out | refine below_set ?_ GE419.out) | exact HB.out))⟩; clear BK412 BK419 HB hq_; have BK412 := n0_; have BK419 := n1_; have HB := n2_; clear n0_ n1_ n2_)); have hnb66 := NB419_412.out; have hnc66 := NB412_419.out; have hcz67 := Mine.cells9 BK419.out; have hfz67_0 := blk_frozen BK419.out))
                  go_roundg k1
                  case measure => have := HK1.out; omega
                  case rel => exact ⟨(5), (Z9), (Za), (Zb), (Zc), (t429), (Ze), (by first | rfl | (simp; done) | (simp [*]; done)), H', ⟨by have := HK1.out; omega⟩, ⟨by (with_reducible repeat (first | refine blk_drewN ?_ _ | refine blk_drew ?_ | refine blk_alloc ?_ _)); refine blk_far ?_ NB412_419.out _; (with_reducible repeat (first | refine blk_drewN ?_ _ | refine blk_drew ?_ | refine blk_alloc ?_ _)); exact BK412.out⟩, ⟨by (with_reducible repeat (first | refine blk_drewN ?_ _ | refine blk_drew ?_ | refine blk_alloc ?_ _)); refine blk_put (cs := #[.int .u32 ((t414) % 4294967296), .int .u32 ((t416) % 4294967296), .int .u64 t418, .int .u64 Z9, .int .u64 Za, .int .u64 Zb, .int .u64 Zc, .int .u64 Zd, .int .u64 Ze]) ?_ 7 _ rfl; (with_reducible repeat (first | refine blk_drewN ?_ _ | refine blk_drew ?_ | refine blk_alloc ?_ _)); exact BK419.out⟩, ⟨by repeat (first | (with_reducible first | exact HB.out | apply below_alloc | apply pw_below_drewN | apply below_drew1 | refine below_set ?_ GE412.out | refine below_set ?_ GE419.out) | exact HB.out)⟩⟩
                 ·rw [if_neg c63] at H
                  exact absurd H (by simp)
                ·rw [if_neg c62] at H
                 exact absurd H (by simp)
               ·rw [if_neg c61] at H
                clear c61
                by_cases c68 : x5_1 = 5
                ·rw [if_pos c68] at H
                 subst c68
                 by_cases c69 : 56 ≤ 64
                 ·rw [if_pos c69] at H
                  have c69b0 := eq_true c69
                  have c69b1 : decide (56 ≤ 64) = true := decide_eq_true c69
                  clear c69
                  by_cases c70 : 64 ≤ (l0.length : Int)
                  ·rw [if_pos c70] at H
                   have c70b0 := eq_true c70
                   have c70b1 : decide (64 ≤ (l0.length : Int)) = true := decide_eq_true c70
                   clear c70
                   replace H := Option.bind_eq_some_iff.mp H
                   obtain ⟨t431, A710, H⟩ := H
                   replace H : (fairleadref04_Of.l0 k1 l0 6 ((t414) % 4294967296) ((t416) % 4294967296) t418 Z9 Za Zb Zc Zd t431) = some (r1, r2, r3, r4, r5, r6, r7, r8, r9, r10) := H
                   have A71 := Aside0.mk A710
                   clear A710
                   have H' := Aside0.mk H
                   clear H
                   obtain ⟨i072, hi072, _, hsz72, _⟩ := info_parts info5
                   obtain ⟨A72, hcut72, hA72, hC72⟩ := print_mid_of (P := Try.prog) (Value.int .u8) 0 30 5 .i64 .i64 Try.underlying30 hi072 hsz72 A0 c0 l0 56 64 (by omega) (by first | omega | exact of_decide_eq_true (by first | (with_reducible assumption) | assumption)) (of_decide_eq_true (by first | (with_reducible assumption) | assumption)) HC0.out
                   have HR430 := Aside0.mk (Kd.C_of_reads (h1 := fun _ => rfl) (hA72 _ (Kd.reads_of_C HR0.out)))
                   have HC430 := Aside0.mk hC72
                   clear hA72 hC72 hi072 hsz72
                   go_wp2_with (first | ((with_reducible refine gate_callee (f := 39) rfl ?_); refine goesL_ (some 39) rfl rfl Try.func39 (by kernel_rfl) rfl #[.slice A72 ((l0.take 64).drop 56).length (c0 - 56)] rfl (by (try simp only [List.map_toArray, List.map_cons, List.map_nil]); first | done | (rw [show ((l0.take 64).drop 56).length = (64 - 56) from (by rw [List.length_drop, List.length_take]; have h_ : (64 : Int) ≤ (l0.length : Int) := of_decide_eq_true (by first | (with_reducible assumption) | assumption); omega)] <;> rfl) | rfl | (simp only [List.length_drop, List.length_take]; rfl)) ?_; (with_reducible refine (fairleadref04_number.calls k1 _ _ ((l0.take 64).drop 56) t431 _ ?side1 ?side2 A71.out).mono ?_); (case side1 => repeat (first | exact (Kd.C_below HR430.out HB.out) | (with_reducible refine Kd.C_alloc ?_ _) | (with_reducible refine Kd.C_drewN ?_ _) | (with_reducible refine Kd.C_drew ?_))); (case side2 => exact HC430.out); rintro e w' ⟨rfl, ⟨nd, rfl⟩⟩; refine ⟨_, rfl, ?_⟩; (try (rw [drewN_self wr]; generalize hq_ : World.drewN wr _ = wr; have n0_ : Aside0 (wr.heap[gb412]? = some (.cells #[.int .u32 0, .int .u32 0, .int .u64 0, .int .u64 0, .int .u64 0, .int .u64 0, .int .u64 0, .int .u64 0, .int .u64 0] 26 (0, 0))) := ⟨by rw [← hq_]; exact (by (with_reducible repeat (first | refine blk_drewN ?_ _ | refine blk_drew ?_ | refine blk_alloc ?_ _)); exact BK412.out)⟩; have n1_ : Aside0 (wr.heap[gb419]? = some (.cells #[.int .u32 ((t414) % 4294967296), .int .u32 ((t416) % 4294967296), .int .u64 t418, .int .u64 Z9, .int .u64 Za, .int .u64 Zb, .int .u64 Zc, .int .u64 Zd, .int .u64 Ze] 26 (0, 0))) := ⟨by rw [← hq_]; exact (by (with_reducible repeat (first | refine blk_drewN ?_ _ | refine blk_drew ?_ | refine blk_alloc ?_ _)); exact BK419.out)⟩; have n2_ : Aside0 (Below w.heap.size w wr) := ⟨by rw [← hq_]; exact (by repeat (first | (with_reducible first | exact HB.out | apply below_alloc | apply pw_below_drewN | apply below_drew1 | refine below_set ?_ GE412.out | refine below_set ?_ GE419.out) | exact HB.out))⟩; clear BK412 BK419 HB hq_; have BK412 := n0_; have BK419 := n1_; have HB := n2_; clear n0_ n1_ n2_)); have hnb73 := NB419_412.out; have hnc73 := NB412_419.out; have hcz74 := Mine.cells9 BK419.out; have hfz74_0 := blk_frozen BK419.out))
                   go_roundg k1
                   case measure => have := HK1.out; omega
                   case rel => exact ⟨(6), (Z9), (Za), (Zb), (Zc), (Zd), (t431), (by first | rfl | (simp; done) | (simp [*]; done)), H', ⟨by have := HK1.out; omega⟩, ⟨by (with_reducible repeat (first | refine blk_drewN ?_ _ | refine blk_drew ?_ | refine blk_alloc ?_ _)); refine blk_far ?_ NB412_419.out _; (with_reducible repeat (first | refine blk_drewN ?_ _ | refine blk_drew ?_ | refine blk_alloc ?_ _)); exact BK412.out⟩, ⟨by (with_reducible repeat (first | refine blk_drewN ?_ _ | refine blk_drew ?_ | refine blk_alloc ?_ _)); refine blk_put (cs := #[.int .u32 ((t414) % 4294967296), .int .u32 ((t416) % 4294967296), .int .u64 t418, .int .u64 Z9, .int .u64 Za, .int .u64 Zb, .int .u64 Zc, .int .u64 Zd, .int .u64 Ze]) ?_ 8 _ rfl; (with_reducible repeat (first | refine blk_drewN ?_ _ | refine blk_drew ?_ | refine blk_alloc ?_ _)); exact BK419.out⟩, ⟨by repeat (first | (with_reducible first | exact HB.out | apply below_alloc | apply pw_below_drewN | apply below_drew1 | refine below_set ?_ GE412.out | refine below_set ?_ GE419.out) | exact HB.out)⟩⟩
                  ·rw [if_neg c70] at H
                   exact absurd H (by simp)
                 ·rw [if_neg c69] at H
                  exact absurd H (by simp)
                ·rw [if_neg c68] at H
                 exact absurd H (by simp)
          ·rw [if_neg c32] at H
           have c32b0 : decide (x5_1 < 6) = false := decide_eq_false c32
           clear c32
           simp only [Option.some.injEq, Prod.mk.injEq] at H
           obtain ⟨rfl, rfl, rfl, rfl, rfl, rfl, rfl, rfl, rfl, rfl⟩ := H
           have hnb75 := NB419_412.out
           have hnc75 := NB412_419.out
           have hcz76 := Mine.cells9 BK419.out
           have hfz76_0 := blk_frozen BK419.out
           have hcz77 := Mine.cells9 BK412.out
           have hfz77_0 := blk_frozen BK412.out
           go_wp2
           refine bodyPost_ret (results_ct rfl _ _ gb412 26 #[.int .u32 ((t414) % 4294967296), .int .u32 ((t416) % 4294967296), .int .u64 t418, .int .u64 Z9, .int .u64 Za, .int .u64 Zb, .int .u64 Zc, .int .u64 Zd, .int .u64 Ze] (0, 0) _ rfl (by (with_reducible repeat (first | refine blk_drewN ?_ _ | refine blk_drew ?_ | refine blk_alloc ?_ _)); refine blk_put (cs := #[.int .u32 ((t414) % 4294967296), .int .u32 ((t416) % 4294967296), .int .u64 t418, .int .u64 Z9, .int .u64 Za, .int .u64 Zb, .int .u64 Zc, .int .u64 Zd, .int .u64 0]) ?_ 8 _ rfl; (with_reducible repeat (first | refine blk_drewN ?_ _ | refine blk_drew ?_ | refine blk_alloc ?_ _)); refine blk_put (cs := #[.int .u32 ((t414) % 4294967296), .int .u32 ((t416) % 4294967296), .int .u64 t418, .int .u64 Z9, .int .u64 Za, .int .u64 Zb, .int .u64 Zc, .int .u64 0, .int .u64 0]) ?_ 7 _ rfl; (with_reducible repeat (first | refine blk_drewN ?_ _ | refine blk_drew ?_ | refine blk_alloc ?_ _)); refine blk_put (cs := #[.int .u32 ((t414) % 4294967296), .int .u32 ((t416) % 4294967296), .int .u64 t418, .int .u64 Z9, .int .u64 Za, .int .u64 Zb, .int .u64 0, .int .u64 0, .int .u64 0]) ?_ 6 _ rfl; (with_reducible repeat (first | refine blk_drewN ?_ _ | refine blk_drew ?_ | refine blk_alloc ?_ _)); refine blk_put (cs := #[.int .u32 ((t414) % 4294967296), .int .u32 ((t416) % 4294967296), .int .u64 t418, .int .u64 Z9, .int .u64 Za, .int .u64 0, .int .u64 0, .int .u64 0, .int .u64 0]) ?_ 5 _ rfl; (with_reducible repeat (first | refine blk_drewN ?_ _ | refine blk_drew ?_ | refine blk_alloc ?_ _)); refine blk_put (cs := #[.int .u32 ((t414) % 4294967296), .int .u32 ((t416) % 4294967296), .int .u64 t418, .int .u64 Z9, .int .u64 0, .int .u64 0, .int .u64 0, .int .u64 0, .int .u64 0]) ?_ 4 _ rfl; (with_reducible repeat (first | refine blk_drewN ?_ _ | refine blk_drew ?_ | refine blk_alloc ?_ _)); refine blk_put (cs := #[.int .u32 ((t414) % 4294967296), .int .u32 ((t416) % 4294967296), .int .u64 t418, .int .u64 0, .int .u64 0, .int .u64 0, .int .u64 0, .int .u64 0, .int .u64 0]) ?_ 3 _ rfl; (with_reducible repeat (first | refine blk_drewN ?_ _ | refine blk_drew ?_ | refine blk_alloc ?_ _)); refine blk_put (cs := #[.int .u32 ((t414) % 4294967296), .int .u32 ((t416) % 4294967296), .int .u64 0, .int .u64 0, .int .u64 0, .int .u64 0, .int .u64 0, .int .u64 0, .int .u64 0]) ?_ 2 _ rfl; (with_reducible repeat (first | refine blk_drewN ?_ _ | refine blk_drew ?_ | refine blk_alloc ?_ _)); refine blk_put (cs := #[.int .u32 ((t414) % 4294967296), .int .u32 0, .int .u64 0, .int .u64 0, .int .u64 0, .int .u64 0, .int .u64 0, .int .u64 0, .int .u64 0]) ?_ 1 _ rfl; (with_reducible repeat (first | refine blk_drewN ?_ _ | refine blk_drew ?_ | refine blk_alloc ?_ _)); refine blk_put (cs := #[.int .u32 0, .int .u32 0, .int .u64 0, .int .u64 0, .int .u64 0, .int .u64 0, .int .u64 0, .int .u64 0, .int .u64 0]) ?_ 0 _ rfl; (with_reducible repeat (first | refine blk_drewN ?_ _ | refine blk_drew ?_ | refine blk_alloc ?_ _)); exact BK412.out) Try.underlying26 rfl (by kernel_rfl)) rfl ?_
           exact ⟨by first | rfl | (simp [errW_none, errW_some] <;> rfl) | (simp [*, errW_none, errW_some] <;> rfl), by repeat (first | (with_reducible first | exact HB.out | apply below_alloc | apply pw_below_drewN | apply below_drew1 | refine below_set ?_ GE412.out | refine below_set ?_ GE419.out) | exact HB.out)⟩
       ·rw [if_neg c14] at H
        exact absurd H (by simp)
      ·rw [if_neg c13] at H
       exact absurd H (by simp)
     ·rw [if_neg c11] at H
      exact absurd H (by simp)
    ·rw [if_neg c10] at H
     exact absurd H (by simp)
   ·rw [if_neg c8] at H
    exact absurd H (by simp)
end Go.Proofs.Ytadglbmghldnfaa.M
