-- Laid by a program (wip/tools/myprint.py) out of the loaded program's own print: for each Go function a Lean function and the proof of its contract.
import Derived.Test.YtfahchgglapglaaQMx0
import Derived.Test.YtfahchgglapglaaQMx11
import Derived.Test.YtfahchgglapglaaQMx12
namespace Go.Proofs.Ytfahchgglapglaa.M
open Go.RowKit Go.Proofs.YtfahchgglapglaaW.PrintWords Go.Proofs.YtfahchgglapglaaW.PrintLast Go.Proofs.YtfahchgglapglaaW.PrintMore
attribute [local go_sem] max2_int min2_int max_two min_two max_three min_three max_four min_four   -- for this text's walks alone
set_option linter.unusedVariables false
set_option linter.unusedSimpArgs false
def fairleadref09_One.j0 : Nat → ByteArray → Int → Int → Bool → Int → Int → ByteArray → Int → Option (Int × Int × ByteArray × Int × Int)
 | 0, _, _, _, _, _, _, _, _ => none
 | k + 1, x0, x1, x6, x80, Z0, Z1, Z2, Z3 => if x80 = true then (if 0 ≤ x1 then (if x1 ≤ (wrap64 (x1 + 2)) then (if (wrap64 (x1 + 2)) ≤ (x0.size : Int) then (some (Z0, Z1, x0.extract (x1 : Int).toNat ((wrap64 (x1 + 2)) : Int).toNat, Z3, 0)) else (none)) else (none)) else (none)) else (if x6 = 59 then (if 0 ≤ x1 then (if x1 ≤ (wrap64 (x1 + 1)) then (if (wrap64 (x1 + 1)) ≤ (x0.size : Int) then (some (Z0, Z1, x0.extract (x1 : Int).toNat ((wrap64 (x1 + 1)) : Int).toNat, Z3, 0)) else (none)) else (none)) else (none)) else (if x6 = 44 then (if 0 ≤ x1 then (if x1 ≤ (wrap64 (x1 + 1)) then (if (wrap64 (x1 + 1)) ≤ (x0.size : Int) then (some (Z0, Z1, x0.extract (x1 : Int).toNat ((wrap64 (x1 + 1)) : Int).toNat, Z3, 0)) else (none)) else (none)) else (none)) else (if x6 = 60 then (if 0 ≤ x1 then (if x1 ≤ (wrap64 (x1 + 1)) then (if (wrap64 (x1 + 1)) ≤ (x0.size : Int) then (some (Z0, Z1, x0.extract (x1 : Int).toNat ((wrap64 (x1 + 1)) : Int).toNat, Z3, 0)) else (none)) else (none)) else (none)) else (if x6 = 62 then (if 0 ≤ x1 then (if x1 ≤ (wrap64 (x1 + 1)) then (if (wrap64 (x1 + 1)) ≤ (x0.size : Int) then (some (Z0, Z1, x0.extract (x1 : Int).toNat ((wrap64 (x1 + 1)) : Int).toNat, Z3, 0)) else (none)) else (none)) else (none)) else (if x6 = 38 then (if 0 ≤ x1 then (if x1 ≤ (wrap64 (x1 + 1)) then (if (wrap64 (x1 + 1)) ≤ (x0.size : Int) then (some (Z0, Z1, x0.extract (x1 : Int).toNat ((wrap64 (x1 + 1)) : Int).toNat, Z3, 0)) else (none)) else (none)) else (none)) else (some (0, 0, (⟨#[]⟩ : ByteArray), 0, 5)))))))
def fairleadref09_One.f (k : Nat) (a0 : ByteArray) (a1 : Int) : Option (Int × Int × ByteArray × Int × Int) := if 0 ≤ a1 then (if a1 < (a0.size : Int) then ((fairleadref09_small.f (bt a0 a1)).bind fun t144 => (if t144 = true then ((fairleadref09_run.f k a0 a1).bind fun t145 => (if a1 ≤ (wrap64 (a1 + t145)) then (if (wrap64 (a1 + t145)) ≤ (a0.size : Int) then (some (1, a1, a0.extract (a1 : Int).toNat ((wrap64 (a1 + t145)) : Int).toNat, 0, 0)) else (none)) else (none))) else ((fairleadref09_digit.f (bt a0 a1)).bind fun t146 => (if t146 = true then ((fairleadref09_run.f k a0 a1).bind fun t147 => (if a1 ≤ (wrap64 (a1 + t147)) then (if (wrap64 (a1 + t147)) ≤ (a0.size : Int) then ((fairleadref09_Number.f k (a0.extract (a1 : Int).toNat ((wrap64 (a1 + t147)) : Int).toNat)).bind fun bt148 => (if bt148.2 = true then (some (2, a1, a0.extract (a1 : Int).toNat ((wrap64 (a1 + t147)) : Int).toNat, bt148.1, 0)) else (some (0, 0, (⟨#[]⟩ : ByteArray), 0, 6)))) else (none)) else (none))) else (if (wrap64 (a1 + 1)) < (a0.size : Int) then (if 0 ≤ (wrap64 (a1 + 1)) then (if (bt a0 (wrap64 (a1 + 1))) = 61 then (if (bt a0 a1) = 61 then (fairleadref09_One.j0 k a0 a1 (bt a0 a1) true 3 a1 (⟨#[]⟩ : ByteArray) 0) else (if (bt a0 a1) = 33 then (fairleadref09_One.j0 k a0 a1 (bt a0 a1) true 3 a1 (⟨#[]⟩ : ByteArray) 0) else (if (bt a0 a1) = 60 then (fairleadref09_One.j0 k a0 a1 (bt a0 a1) true 3 a1 (⟨#[]⟩ : ByteArray) 0) else (fairleadref09_One.j0 k a0 a1 (bt a0 a1) ((bt a0 a1) == 62) 3 a1 (⟨#[]⟩ : ByteArray) 0)))) else (fairleadref09_One.j0 k a0 a1 (bt a0 a1) false 3 a1 (⟨#[]⟩ : ByteArray) 0)) else (none)) else (fairleadref09_One.j0 k a0 a1 (bt a0 a1) false 3 a1 (⟨#[]⟩ : ByteArray) 0)))))) else (none)) else (none)
set_option maxHeartbeats 8000000 in
set_option maxRecDepth 100000 in
theorem fairleadref09_One.calls (k : Nat) (a0 : ByteArray) (a1 : Int) (r1 : Int) (r2 : Int) (r3 : ByteArray) (r4 : Int) (r5 : Int) (w : World) (h : fairleadref09_One.f k a0 a1 = some (r1, r2, r3, r4, r5)) :
  Calls Try.prog 36 #[.string a0, .int .i64 a1] w fun e w' => e = .returned (.tuple #[.agg #[.int .i64 r1, .int .i64 r2, .string r3, .int .u64 r4], .int .i64 r5]) ∧ Below w.heap.size w w' := by
 have hu39 := Try.underlying39
 have HB := Aside0.mk (Below.refl w.heap.size w)
 have H : (if 0 ≤ a1 then (if a1 < (a0.size : Int) then ((fairleadref09_small.f (bt a0 a1)).bind fun t144 => (if t144 = true then ((fairleadref09_run.f k a0 a1).bind fun t145 => (if a1 ≤ (wrap64 (a1 + t145)) then (if (wrap64 (a1 + t145)) ≤ (a0.size : Int) then (some (1, a1, a0.extract (a1 : Int).toNat ((wrap64 (a1 + t145)) : Int).toNat, 0, 0)) else (none)) else (none))) else ((fairleadref09_digit.f (bt a0 a1)).bind fun t146 => (if t146 = true then ((fairleadref09_run.f k a0 a1).bind fun t147 => (if a1 ≤ (wrap64 (a1 + t147)) then (if (wrap64 (a1 + t147)) ≤ (a0.size : Int) then ((fairleadref09_Number.f k (a0.extract (a1 : Int).toNat ((wrap64 (a1 + t147)) : Int).toNat)).bind fun bt148 => (if bt148.2 = true then (some (2, a1, a0.extract (a1 : Int).toNat ((wrap64 (a1 + t147)) : Int).toNat, bt148.1, 0)) else (some (0, 0, (⟨#[]⟩ : ByteArray), 0, 6)))) else (none)) else (none))) else (if (wrap64 (a1 + 1)) < (a0.size : Int) then (if 0 ≤ (wrap64 (a1 + 1)) then (if (bt a0 (wrap64 (a1 + 1))) = 61 then (if (bt a0 a1) = 61 then (fairleadref09_One.j0 k a0 a1 (bt a0 a1) true 3 a1 (⟨#[]⟩ : ByteArray) 0) else (if (bt a0 a1) = 33 then (fairleadref09_One.j0 k a0 a1 (bt a0 a1) true 3 a1 (⟨#[]⟩ : ByteArray) 0) else (if (bt a0 a1) = 60 then (fairleadref09_One.j0 k a0 a1 (bt a0 a1) true 3 a1 (⟨#[]⟩ : ByteArray) 0) else (fairleadref09_One.j0 k a0 a1 (bt a0 a1) ((bt a0 a1) == 62) 3 a1 (⟨#[]⟩ : ByteArray) 0)))) else (fairleadref09_One.j0 k a0 a1 (bt a0 a1) false 3 a1 (⟨#[]⟩ : ByteArray) 0)) else (none)) else (fairleadref09_One.j0 k a0 a1 (bt a0 a1) false 3 a1 (⟨#[]⟩ : ByteArray) 0)))))) else (none)) else (none)) = some (r1, r2, r3, r4, r5) := h
 clear h
 by_cases c3 : 0 ≤ a1
 ·rw [if_pos c3] at H
  have c3b0 : decide (0 ≤ a1) = true := decide_eq_true c3
  clear c3
  by_cases c4 : a1 < (a0.size : Int)
  ·rw [if_pos c4] at H
   have c4b0 : decide (a1 < (a0.size : Int)) = true := decide_eq_true c4
   clear c4
   replace H := Option.bind_eq_some_iff.mp H
   obtain ⟨t144, A60, H⟩ := H
   replace H : (if t144 = true then ((fairleadref09_run.f k a0 a1).bind fun t145 => (if a1 ≤ (wrap64 (a1 + t145)) then (if (wrap64 (a1 + t145)) ≤ (a0.size : Int) then (some (1, a1, a0.extract (a1 : Int).toNat ((wrap64 (a1 + t145)) : Int).toNat, 0, 0)) else (none)) else (none))) else ((fairleadref09_digit.f (bt a0 a1)).bind fun t146 => (if t146 = true then ((fairleadref09_run.f k a0 a1).bind fun t147 => (if a1 ≤ (wrap64 (a1 + t147)) then (if (wrap64 (a1 + t147)) ≤ (a0.size : Int) then ((fairleadref09_Number.f k (a0.extract (a1 : Int).toNat ((wrap64 (a1 + t147)) : Int).toNat)).bind fun bt148 => (if bt148.2 = true then (some (2, a1, a0.extract (a1 : Int).toNat ((wrap64 (a1 + t147)) : Int).toNat, bt148.1, 0)) else (some (0, 0, (⟨#[]⟩ : ByteArray), 0, 6)))) else (none)) else (none))) else (if (wrap64 (a1 + 1)) < (a0.size : Int) then (if 0 ≤ (wrap64 (a1 + 1)) then (if (bt a0 (wrap64 (a1 + 1))) = 61 then (if (bt a0 a1) = 61 then (fairleadref09_One.j0 k a0 a1 (bt a0 a1) true 3 a1 (⟨#[]⟩ : ByteArray) 0) else (if (bt a0 a1) = 33 then (fairleadref09_One.j0 k a0 a1 (bt a0 a1) true 3 a1 (⟨#[]⟩ : ByteArray) 0) else (if (bt a0 a1) = 60 then (fairleadref09_One.j0 k a0 a1 (bt a0 a1) true 3 a1 (⟨#[]⟩ : ByteArray) 0) else (fairleadref09_One.j0 k a0 a1 (bt a0 a1) ((bt a0 a1) == 62) 3 a1 (⟨#[]⟩ : ByteArray) 0)))) else (fairleadref09_One.j0 k a0 a1 (bt a0 a1) false 3 a1 (⟨#[]⟩ : ByteArray) 0)) else (none)) else (fairleadref09_One.j0 k a0 a1 (bt a0 a1) false 3 a1 (⟨#[]⟩ : ByteArray) 0))))) = some (r1, r2, r3, r4, r5) := H
   have A6 := Aside0.mk A60
   clear A60
   by_cases c7 : t144 = true
   ·subst c7
    have H1 : ((fairleadref09_run.f k a0 a1).bind fun t145 => (if a1 ≤ (wrap64 (a1 + t145)) then (if (wrap64 (a1 + t145)) ≤ (a0.size : Int) then (some (1, a1, a0.extract (a1 : Int).toNat ((wrap64 (a1 + t145)) : Int).toNat, 0, 0)) else (none)) else (none))) = some (r1, r2, r3, r4, r5) := by rw [if_pos rfl] at H; exact H
    clear H
    have H := H1
    clear H1
    replace H := Option.bind_eq_some_iff.mp H
    obtain ⟨t145, A80, H⟩ := H
    replace H : (if a1 ≤ (wrap64 (a1 + t145)) then (if (wrap64 (a1 + t145)) ≤ (a0.size : Int) then (some (1, a1, a0.extract (a1 : Int).toNat ((wrap64 (a1 + t145)) : Int).toNat, 0, 0)) else (none)) else (none)) = some (r1, r2, r3, r4, r5) := H
    have A8 := Aside0.mk A80
    clear A80
    have c9b0 := eq_true (of_decide_eq_true (by first | (with_reducible assumption) | assumption) : 0 ≤ a1)
    by_cases c10 : a1 ≤ (wrap64 (a1 + t145))
    ·rw [if_pos c10] at H
     have c10b0 := eq_true c10
     have c10b1 : decide (a1 ≤ (wrap64 (a1 + t145))) = true := decide_eq_true c10
     by_cases c11 : (wrap64 (a1 + t145)) ≤ (a0.size : Int)
     ·rw [if_pos c11] at H
      have c11b0 := eq_true c11
      have c11b1 : decide ((wrap64 (a1 + t145)) ≤ (a0.size : Int)) = true := decide_eq_true c11
      simp only [Option.some.injEq, Prod.mk.injEq] at H
      obtain ⟨rfl, rfl, rfl, rfl, rfl⟩ := H
      go_enter Try.func36, Try.ntmps36
      go_wp2_with (first | ((with_reducible refine gate_dst (N := 4) rfl ?_); refine box_event ?hg (N := 4) ?hd (cs := #[.int .i64 0, .int .i64 0, .string (⟨#[]⟩ : ByteArray), .int .u64 0]) (t := 39) ?hr ?_; (case hd => rfl); (case hg => rfl); (case hr => first | (go_simp; done) | (go_simp; rfl)); intro gb142 hg w12 hbox hb; have n0_ := Aside0.mk (below_step (by repeat (first | (with_reducible first | exact HB.out | apply below_alloc | apply pw_below_drewN | apply below_drew1) | exact HB.out)) hb); have n1_ := Aside0.mk (hbox); have n2_ := Aside0.mk ((by rw [hg]; exact (below_size (by repeat (first | (with_reducible first | exact HB.out | apply below_alloc | apply pw_below_drewN | apply below_drew1) | exact HB.out))) : w.heap.size ≤ gb142)); have n3_ := Aside0.mk ((by rw [hg]; exact (below_size (by repeat (first | (with_reducible first | exact HB.out | apply below_alloc | apply pw_below_drewN | apply below_drew1) | exact HB.out))) : w.heap.size ≤ gb142)); clear HB; have HB := n0_; have BK142 := n1_; have GW142 := n2_; have GE142 := n3_; clear n0_ n1_ n2_ n3_; clear hb hbox hg; have p5 : 0 ≤ (a1 : Int) := of_decide_eq_true (by first | (with_reducible assumption) | assumption); have q5 : a1 < (a0.size : Int) := of_decide_eq_true (by first | (with_reducible assumption) | assumption); have hx5 := bt_at a0 a1; replace p5 := eq_true p5; replace q5 := eq_true q5) | ((with_reducible refine gate_dst (N := 7) rfl ?_); refine box_event ?hg (N := 7) ?hd (cs := #[.int .i64 0, .int .i64 0, .string (⟨#[]⟩ : ByteArray), .int .u64 0]) (t := 39) ?hr ?_; (case hd => rfl); (case hg => rfl); (case hr => first | (go_simp; done) | (go_simp; rfl)); intro gb143 hg w13 hbox hb; have n0_ := Aside0.mk (blk_below (g := gb142) (o := .cells #[.int .i64 0, .int .i64 0, .string (⟨#[]⟩ : ByteArray), .int .u64 0] 39 (0, 0)) (by (with_reducible repeat (first | refine blk_drewN ?_ _ | refine blk_drew ?_ | refine blk_alloc ?_ _)); exact BK142.out) hb); have n1_ := Aside0.mk (below_step (by repeat (first | (with_reducible first | exact HB.out | apply below_alloc | apply pw_below_drewN | apply below_drew1 | refine below_set ?_ GE142.out) | exact HB.out)) hb); have n2_ := Aside0.mk (hbox); have n3_ := Aside0.mk ((by rw [hg]; exact (below_size (by repeat (first | (with_reducible first | exact HB.out | apply below_alloc | apply pw_below_drewN | apply below_drew1 | refine below_set ?_ GE142.out) | exact HB.out))) : w.heap.size ≤ gb143)); have n4_ := Aside0.mk ((by rw [hg]; exact (below_size (by repeat (first | (with_reducible first | exact HB.out | apply below_alloc | apply pw_below_drewN | apply below_drew1 | refine below_set ?_ GE142.out) | exact HB.out))) : w.heap.size ≤ gb143)); have n5_ := Aside0.mk ((by rw [hg]; exact Nat.ne_of_lt (blk_lt (g := gb142) (o := .cells #[.int .i64 0, .int .i64 0, .string (⟨#[]⟩ : ByteArray), .int .u64 0] 39 (0, 0)) (by (with_reducible repeat (first | refine blk_drewN ?_ _ | refine blk_drew ?_ | refine blk_alloc ?_ _)); exact BK142.out)) : gb142 ≠ gb143)); have n6_ := Aside0.mk ((by rw [hg]; exact Nat.ne_of_gt (blk_lt (g := gb142) (o := .cells #[.int .i64 0, .int .i64 0, .string (⟨#[]⟩ : ByteArray), .int .u64 0] 39 (0, 0)) (by (with_reducible repeat (first | refine blk_drewN ?_ _ | refine blk_drew ?_ | refine blk_alloc ?_ _)); exact BK142.out)) : gb143 ≠ gb142)); clear BK142; clear HB; have BK142 := n0_; have HB := n1_; have BK143 := n2_; have GW143 := n3_; have GE143 := n4_; have NB142_143 := n5_; have NB143_142 := n6_; clear n0_ n1_ n2_ n3_ n4_ n5_ n6_; clear hb hbox hg; have hnb14 := NB143_142.out; have hnc14 := NB142_143.out; obtain ⟨hcz15_0, hcz15_1, hcz15_2, hcz15_3⟩ := Mine.cells4 BK143.out; have hfz15_0 := blk_frozen BK143.out) | ((with_reducible refine gate_callee (f := 45) rfl ?_); refine goesL_ (some 16) rfl rfl Try.func45 (by kernel_rfl) rfl #[.int .u8 (bt a0 a1)] rfl (by (try simp only [List.map_toArray, List.map_cons, List.map_nil]); first | done | rfl | (simp only [List.length_drop, List.length_take]; rfl)) ?_; (with_reducible refine (fairleadref09_small.calls (bt a0 a1) true _ A6.out).mono ?_); rintro e w' ⟨rfl, ⟨nd, rfl⟩⟩; refine ⟨_, rfl, ?_⟩) | ((with_reducible refine gate_callee (f := 46) rfl ?_); refine goesL_ (some 23) rfl rfl Try.func46 (by kernel_rfl) rfl #[.string a0, .int .i64 a1] rfl (by (try simp only [List.map_toArray, List.map_cons, List.map_nil]); first | done | rfl | (simp only [List.length_drop, List.length_take]; rfl)) ?_; (with_reducible refine (fairleadref09_run.calls k a0 a1 t145 _ A8.out).mono ?_); rintro e w' ⟨rfl, ⟨nd, rfl⟩⟩; refine ⟨_, rfl, ?_⟩; obtain ⟨hcz16_0, hcz16_1, hcz16_2, hcz16_3⟩ := Mine.cells4 BK142.out; have hfz16_0 := blk_frozen BK142.out))
      refine bodyPost_ret (results_ct rfl _ _ gb142 39 #[.int .i64 1, .int .i64 a1, .string (a0.extract (a1 : Int).toNat ((wrap64 (a1 + t145)) : Int).toNat), .int .u64 0] (0, 0) _ rfl (by (with_reducible repeat (first | refine blk_drewN ?_ _ | refine blk_drew ?_ | refine blk_alloc ?_ _)); refine blk_put (cs := #[.int .i64 1, .int .i64 a1, .string (a0.extract (a1 : Int).toNat ((wrap64 (a1 + t145)) : Int).toNat), .int .u64 0]) ?_ 3 _ rfl; (with_reducible repeat (first | refine blk_drewN ?_ _ | refine blk_drew ?_ | refine blk_alloc ?_ _)); refine blk_put (cs := #[.int .i64 1, .int .i64 a1, .string (⟨#[]⟩ : ByteArray), .int .u64 0]) ?_ 2 _ rfl; (with_reducible repeat (first | refine blk_drewN ?_ _ | refine blk_drew ?_ | refine blk_alloc ?_ _)); refine blk_put (cs := #[.int .i64 1, .int .i64 0, .string (⟨#[]⟩ : ByteArray), .int .u64 0]) ?_ 1 _ rfl; (with_reducible repeat (first | refine blk_drewN ?_ _ | refine blk_drew ?_ | refine blk_alloc ?_ _)); refine blk_put (cs := #[.int .i64 0, .int .i64 0, .string (⟨#[]⟩ : ByteArray), .int .u64 0]) ?_ 0 _ rfl; (with_reducible repeat (first | refine blk_drewN ?_ _ | refine blk_drew ?_ | refine blk_alloc ?_ _)); refine blk_far ?_ NB142_143.out _; (with_reducible repeat (first | refine blk_drewN ?_ _ | refine blk_drew ?_ | refine blk_alloc ?_ _)); refine blk_far ?_ NB142_143.out _; (with_reducible repeat (first | refine blk_drewN ?_ _ | refine blk_drew ?_ | refine blk_alloc ?_ _)); refine blk_far ?_ NB142_143.out _; (with_reducible repeat (first | refine blk_drewN ?_ _ | refine blk_drew ?_ | refine blk_alloc ?_ _)); refine blk_far ?_ NB142_143.out _; (with_reducible repeat (first | refine blk_drewN ?_ _ | refine blk_drew ?_ | refine blk_alloc ?_ _)); refine blk_far ?_ NB142_143.out _; (with_reducible repeat (first | refine blk_drewN ?_ _ | refine blk_drew ?_ | refine blk_alloc ?_ _)); refine blk_far ?_ NB142_143.out _; (with_reducible repeat (first | refine blk_drewN ?_ _ | refine blk_drew ?_ | refine blk_alloc ?_ _)); exact BK142.out) Try.underlying39 rfl (by kernel_rfl)) rfl ?_
      exact ⟨by first | rfl | (simp [errW_none, errW_some] <;> rfl) | (simp [*, errW_none, errW_some] <;> rfl), by repeat (first | (with_reducible first | exact HB.out | apply below_alloc | apply pw_below_drewN | apply below_drew1 | refine below_set ?_ GE142.out | refine below_set ?_ GE143.out) | exact HB.out)⟩
     ·rw [if_neg c11] at H
      exact absurd H (by simp)
    ·rw [if_neg c10] at H
     exact absurd H (by simp)
   ·replace c7 := Bool.eq_false_iff.mpr c7
    subst c7
    have H1 : ((fairleadref09_digit.f (bt a0 a1)).bind fun t146 => (if t146 = true then ((fairleadref09_run.f k a0 a1).bind fun t147 => (if a1 ≤ (wrap64 (a1 + t147)) then (if (wrap64 (a1 + t147)) ≤ (a0.size : Int) then ((fairleadref09_Number.f k (a0.extract (a1 : Int).toNat ((wrap64 (a1 + t147)) : Int).toNat)).bind fun bt148 => (if bt148.2 = true then (some (2, a1, a0.extract (a1 : Int).toNat ((wrap64 (a1 + t147)) : Int).toNat, bt148.1, 0)) else (some (0, 0, (⟨#[]⟩ : ByteArray), 0, 6)))) else (none)) else (none))) else (if (wrap64 (a1 + 1)) < (a0.size : Int) then (if 0 ≤ (wrap64 (a1 + 1)) then (if (bt a0 (wrap64 (a1 + 1))) = 61 then (if (bt a0 a1) = 61 then (fairleadref09_One.j0 k a0 a1 (bt a0 a1) true 3 a1 (⟨#[]⟩ : ByteArray) 0) else (if (bt a0 a1) = 33 then (fairleadref09_One.j0 k a0 a1 (bt a0 a1) true 3 a1 (⟨#[]⟩ : ByteArray) 0) else (if (bt a0 a1) = 60 then (fairleadref09_One.j0 k a0 a1 (bt a0 a1) true 3 a1 (⟨#[]⟩ : ByteArray) 0) else (fairleadref09_One.j0 k a0 a1 (bt a0 a1) ((bt a0 a1) == 62) 3 a1 (⟨#[]⟩ : ByteArray) 0)))) else (fairleadref09_One.j0 k a0 a1 (bt a0 a1) false 3 a1 (⟨#[]⟩ : ByteArray) 0)) else (none)) else (fairleadref09_One.j0 k a0 a1 (bt a0 a1) false 3 a1 (⟨#[]⟩ : ByteArray) 0)))) = some (r1, r2, r3, r4, r5) := by rw [if_neg (show ¬ (false = true) by decide)] at H; exact H
    clear H
    have H := H1
    clear H1
    replace H := Option.bind_eq_some_iff.mp H
    obtain ⟨t146, A170, H⟩ := H
    replace H : (if t146 = true then ((fairleadref09_run.f k a0 a1).bind fun t147 => (if a1 ≤ (wrap64 (a1 + t147)) then (if (wrap64 (a1 + t147)) ≤ (a0.size : Int) then ((fairleadref09_Number.f k (a0.extract (a1 : Int).toNat ((wrap64 (a1 + t147)) : Int).toNat)).bind fun bt148 => (if bt148.2 = true then (some (2, a1, a0.extract (a1 : Int).toNat ((wrap64 (a1 + t147)) : Int).toNat, bt148.1, 0)) else (some (0, 0, (⟨#[]⟩ : ByteArray), 0, 6)))) else (none)) else (none))) else (if (wrap64 (a1 + 1)) < (a0.size : Int) then (if 0 ≤ (wrap64 (a1 + 1)) then (if (bt a0 (wrap64 (a1 + 1))) = 61 then (if (bt a0 a1) = 61 then (fairleadref09_One.j0 k a0 a1 (bt a0 a1) true 3 a1 (⟨#[]⟩ : ByteArray) 0) else (if (bt a0 a1) = 33 then (fairleadref09_One.j0 k a0 a1 (bt a0 a1) true 3 a1 (⟨#[]⟩ : ByteArray) 0) else (if (bt a0 a1) = 60 then (fairleadref09_One.j0 k a0 a1 (bt a0 a1) true 3 a1 (⟨#[]⟩ : ByteArray) 0) else (fairleadref09_One.j0 k a0 a1 (bt a0 a1) ((bt a0 a1) == 62) 3 a1 (⟨#[]⟩ : ByteArray) 0)))) else (fairleadref09_One.j0 k a0 a1 (bt a0 a1) false 3 a1 (⟨#[]⟩ : ByteArray) 0)) else (none)) else (fairleadref09_One.j0 k a0 a1 (bt a0 a1) false 3 a1 (⟨#[]⟩ : ByteArray) 0))) = some (r1, r2, r3, r4, r5) := H
    have A17 := Aside0.mk A170
    clear A170
    by_cases c18 : t146 = true
    ·subst c18
     have H1 : ((fairleadref09_run.f k a0 a1).bind fun t147 => (if a1 ≤ (wrap64 (a1 + t147)) then (if (wrap64 (a1 + t147)) ≤ (a0.size : Int) then ((fairleadref09_Number.f k (a0.extract (a1 : Int).toNat ((wrap64 (a1 + t147)) : Int).toNat)).bind fun bt148 => (if bt148.2 = true then (some (2, a1, a0.extract (a1 : Int).toNat ((wrap64 (a1 + t147)) : Int).toNat, bt148.1, 0)) else (some (0, 0, (⟨#[]⟩ : ByteArray), 0, 6)))) else (none)) else (none))) = some (r1, r2, r3, r4, r5) := by rw [if_pos rfl] at H; exact H
     clear H
     have H := H1
     clear H1
     replace H := Option.bind_eq_some_iff.mp H
     obtain ⟨t147, A190, H⟩ := H
     replace H : (if a1 ≤ (wrap64 (a1 + t147)) then (if (wrap64 (a1 + t147)) ≤ (a0.size : Int) then ((fairleadref09_Number.f k (a0.extract (a1 : Int).toNat ((wrap64 (a1 + t147)) : Int).toNat)).bind fun bt148 => (if bt148.2 = true then (some (2, a1, a0.extract (a1 : Int).toNat ((wrap64 (a1 + t147)) : Int).toNat, bt148.1, 0)) else (some (0, 0, (⟨#[]⟩ : ByteArray), 0, 6)))) else (none)) else (none)) = some (r1, r2, r3, r4, r5) := H
     have A19 := Aside0.mk A190
     clear A190
     have c20b0 := eq_true (of_decide_eq_true (by first | (with_reducible assumption) | assumption) : 0 ≤ a1)
     by_cases c21 : a1 ≤ (wrap64 (a1 + t147))
     ·rw [if_pos c21] at H
      have c21b0 := eq_true c21
      have c21b1 : decide (a1 ≤ (wrap64 (a1 + t147))) = true := decide_eq_true c21
      by_cases c22 : (wrap64 (a1 + t147)) ≤ (a0.size : Int)
      ·rw [if_pos c22] at H
       have c22b0 := eq_true c22
       have c22b1 : decide ((wrap64 (a1 + t147)) ≤ (a0.size : Int)) = true := decide_eq_true c22
       replace H := Option.bind_eq_some_iff.mp H
       obtain ⟨⟨t148, t149⟩, A230, H⟩ := H
       replace H : (if t149 = true then (some (2, a1, a0.extract (a1 : Int).toNat ((wrap64 (a1 + t147)) : Int).toNat, t148, 0)) else (some (0, 0, (⟨#[]⟩ : ByteArray), 0, 6))) = some (r1, r2, r3, r4, r5) := H
       have A23 := Aside0.mk A230
       clear A230
       by_cases c24 : t149 = true
       ·subst c24
        have H1 : (some (2, a1, a0.extract (a1 : Int).toNat ((wrap64 (a1 + t147)) : Int).toNat, t148, 0)) = some (r1, r2, r3, r4, r5) := by rw [if_pos rfl] at H; exact H
        clear H
        have H := H1
        clear H1
        simp only [Option.some.injEq, Prod.mk.injEq] at H
        obtain ⟨rfl, rfl, rfl, rfl, rfl⟩ := H
        go_enter Try.func36, Try.ntmps36
        go_wp2_with (first | ((with_reducible refine gate_dst (N := 4) rfl ?_); refine box_event ?hg (N := 4) ?hd (cs := #[.int .i64 0, .int .i64 0, .string (⟨#[]⟩ : ByteArray), .int .u64 0]) (t := 39) ?hr ?_; (case hd => rfl); (case hg => rfl); (case hr => first | (go_simp; done) | (go_simp; rfl)); intro gb142 hg w25 hbox hb; have n0_ := Aside0.mk (below_step (by repeat (first | (with_reducible first | exact HB.out | apply below_alloc | apply pw_below_drewN | apply below_drew1) | exact HB.out)) hb); have n1_ := Aside0.mk (hbox); have n2_ := Aside0.mk ((by rw [hg]; exact (below_size (by repeat (first | (with_reducible first | exact HB.out | apply below_alloc | apply pw_below_drewN | apply below_drew1) | exact HB.out))) : w.heap.size ≤ gb142)); have n3_ := Aside0.mk ((by rw [hg]; exact (below_size (by repeat (first | (with_reducible first | exact HB.out | apply below_alloc | apply pw_below_drewN | apply below_drew1) | exact HB.out))) : w.heap.size ≤ gb142)); clear HB; have HB := n0_; have BK142 := n1_; have GW142 := n2_; have GE142 := n3_; clear n0_ n1_ n2_ n3_; clear hb hbox hg; have p5 : 0 ≤ (a1 : Int) := of_decide_eq_true (by first | (with_reducible assumption) | assumption); have q5 : a1 < (a0.size : Int) := of_decide_eq_true (by first | (with_reducible assumption) | assumption); have hx5 := bt_at a0 a1; replace p5 := eq_true p5; replace q5 := eq_true q5) | ((with_reducible refine gate_dst (N := 7) rfl ?_); refine box_event ?hg (N := 7) ?hd (cs := #[.int .i64 0, .int .i64 0, .string (⟨#[]⟩ : ByteArray), .int .u64 0]) (t := 39) ?hr ?_; (case hd => rfl); (case hg => rfl); (case hr => first | (go_simp; done) | (go_simp; rfl)); intro gb143 hg w26 hbox hb; have n0_ := Aside0.mk (blk_below (g := gb142) (o := .cells #[.int .i64 0, .int .i64 0, .string (⟨#[]⟩ : ByteArray), .int .u64 0] 39 (0, 0)) (by (with_reducible repeat (first | refine blk_drewN ?_ _ | refine blk_drew ?_ | refine blk_alloc ?_ _)); exact BK142.out) hb); have n1_ := Aside0.mk (below_step (by repeat (first | (with_reducible first | exact HB.out | apply below_alloc | apply pw_below_drewN | apply below_drew1 | refine below_set ?_ GE142.out) | exact HB.out)) hb); have n2_ := Aside0.mk (hbox); have n3_ := Aside0.mk ((by rw [hg]; exact (below_size (by repeat (first | (with_reducible first | exact HB.out | apply below_alloc | apply pw_below_drewN | apply below_drew1 | refine below_set ?_ GE142.out) | exact HB.out))) : w.heap.size ≤ gb143)); have n4_ := Aside0.mk ((by rw [hg]; exact (below_size (by repeat (first | (with_reducible first | exact HB.out | apply below_alloc | apply pw_below_drewN | apply below_drew1 | refine below_set ?_ GE142.out) | exact HB.out))) : w.heap.size ≤ gb143)); have n5_ := Aside0.mk ((by rw [hg]; exact Nat.ne_of_lt (blk_lt (g := gb142) (o := .cells #[.int .i64 0, .int .i64 0, .string (⟨#[]⟩ : ByteArray), .int .u64 0] 39 (0, 0)) (by (with_reducible repeat (first | refine blk_drewN ?_ _ | refine blk_drew ?_ | refine blk_alloc ?_ _)); exact BK142.out)) : gb142 ≠ gb143)); have n6_ := Aside0.mk ((by rw [hg]; exact Nat.ne_of_gt (blk_lt (g := gb142) (o := .cells #[.int .i64 0, .int .i64 0, .string (⟨#[]⟩ : ByteArray), .int .u64 0] 39 (0, 0)) (by (with_reducible repeat (first | refine blk_drewN ?_ _ | refine blk_drew ?_ | refine blk_alloc ?_ _)); exact BK142.out)) : gb143 ≠ gb142)); clear BK142; clear HB; have BK142 := n0_; have HB := n1_; have BK143 := n2_; have GW143 := n3_; have GE143 := n4_; have NB142_143 := n5_; have NB143_142 := n6_; clear n0_ n1_ n2_ n3_ n4_ n5_ n6_; clear hb hbox hg; have hnb27 := NB143_142.out; have hnc27 := NB142_143.out; obtain ⟨hcz28_0, hcz28_1, hcz28_2, hcz28_3⟩ := Mine.cells4 BK143.out; have hfz28_0 := blk_frozen BK143.out) | ((with_reducible refine gate_callee (f := 45) rfl ?_); refine goesL_ (some 16) rfl rfl Try.func45 (by kernel_rfl) rfl #[.int .u8 (bt a0 a1)] rfl (by (try simp only [List.map_toArray, List.map_cons, List.map_nil]); first | done | rfl | (simp only [List.length_drop, List.length_take]; rfl)) ?_; (with_reducible refine (fairleadref09_small.calls (bt a0 a1) false _ A6.out).mono ?_); rintro e w' ⟨rfl, ⟨nd, rfl⟩⟩; refine ⟨_, rfl, ?_⟩) | ((with_reducible refine gate_callee (f := 47) rfl ?_); refine goesL_ (some 29) rfl rfl Try.func47 (by kernel_rfl) rfl #[.int .u8 (bt a0 a1)] rfl (by (try simp only [List.map_toArray, List.map_cons, List.map_nil]); first | done | rfl | (simp only [List.length_drop, List.length_take]; rfl)) ?_; (with_reducible refine (fairleadref09_digit.calls (bt a0 a1) true _ A17.out).mono ?_); rintro e w' ⟨rfl, ⟨nd, rfl⟩⟩; refine ⟨_, rfl, ?_⟩) | ((with_reducible refine gate_callee (f := 46) rfl ?_); refine goesL_ (some 36) rfl rfl Try.func46 (by kernel_rfl) rfl #[.string a0, .int .i64 a1] rfl (by (try simp only [List.map_toArray, List.map_cons, List.map_nil]); first | done | rfl | (simp only [List.length_drop, List.length_take]; rfl)) ?_; (with_reducible refine (fairleadref09_run.calls k a0 a1 t147 _ A19.out).mono ?_); rintro e w' ⟨rfl, ⟨nd, rfl⟩⟩; refine ⟨_, rfl, ?_⟩) | ((with_reducible refine gate_callee (f := 48) rfl ?_); refine goesL_ (some 43) rfl rfl Try.func48 (by kernel_rfl) rfl #[.string (a0.extract (a1 : Int).toNat ((wrap64 (a1 + t147)) : Int).toNat)] rfl (by (try simp only [List.map_toArray, List.map_cons, List.map_nil]); first | done | rfl | (simp only [List.length_drop, List.length_take]; rfl)) ?_; (with_reducible refine (fairleadref09_Number.calls k (a0.extract (a1 : Int).toNat ((wrap64 (a1 + t147)) : Int).toNat) t148 true _ A23.out).mono ?_); rintro e w' ⟨rfl, ⟨nd, rfl⟩⟩; refine ⟨_, rfl, ?_⟩; obtain ⟨hcz29_0, hcz29_1, hcz29_2, hcz29_3⟩ := Mine.cells4 BK142.out; have hfz29_0 := blk_frozen BK142.out))
        refine bodyPost_ret (results_ct rfl _ _ gb142 39 #[.int .i64 2, .int .i64 a1, .string (a0.extract (a1 : Int).toNat ((wrap64 (a1 + t147)) : Int).toNat), .int .u64 t148] (0, 0) _ rfl (by (with_reducible repeat (first | refine blk_drewN ?_ _ | refine blk_drew ?_ | refine blk_alloc ?_ _)); refine blk_put (cs := #[.int .i64 2, .int .i64 a1, .string (a0.extract (a1 : Int).toNat ((wrap64 (a1 + t147)) : Int).toNat), .int .u64 0]) ?_ 3 _ rfl; (with_reducible repeat (first | refine blk_drewN ?_ _ | refine blk_drew ?_ | refine blk_alloc ?_ _)); refine blk_put (cs := #[.int .i64 2, .int .i64 a1, .string (⟨#[]⟩ : ByteArray), .int .u64 0]) ?_ 2 _ rfl; (with_reducible repeat (first | refine blk_drewN ?_ _ | refine blk_drew ?_ | refine blk_alloc ?_ _)); refine blk_put (cs := #[.int .i64 2, .int .i64 0, .string (⟨#[]⟩ : ByteArray), .int .u64 0]) ?_ 1 _ rfl; (with_reducible repeat (first | refine blk_drewN ?_ _ | refine blk_drew ?_ | refine blk_alloc ?_ _)); refine blk_put (cs := #[.int .i64 0, .int .i64 0, .string (⟨#[]⟩ : ByteArray), .int .u64 0]) ?_ 0 _ rfl; (with_reducible repeat (first | refine blk_drewN ?_ _ | refine blk_drew ?_ | refine blk_alloc ?_ _)); refine blk_far ?_ NB142_143.out _; (with_reducible repeat (first | refine blk_drewN ?_ _ | refine blk_drew ?_ | refine blk_alloc ?_ _)); refine blk_far ?_ NB142_143.out _; (with_reducible repeat (first | refine blk_drewN ?_ _ | refine blk_drew ?_ | refine blk_alloc ?_ _)); refine blk_far ?_ NB142_143.out _; (with_reducible repeat (first | refine blk_drewN ?_ _ | refine blk_drew ?_ | refine blk_alloc ?_ _)); refine blk_far ?_ NB142_143.out _; (with_reducible repeat (first | refine blk_drewN ?_ _ | refine blk_drew ?_ | refine blk_alloc ?_ _)); refine blk_far ?_ NB142_143.out _; (with_reducible repeat (first | refine blk_drewN ?_ _ | refine blk_drew ?_ | refine blk_alloc ?_ _)); refine blk_far ?_ NB142_143.out _; (with_reducible repeat (first | refine blk_drewN ?_ _ | refine blk_drew ?_ | refine blk_alloc ?_ _)); refine blk_far ?_ NB142_143.out _; (with_reducible repeat (first | refine blk_drewN ?_ _ | refine blk_drew ?_ | refine blk_alloc ?_ _)); exact BK142.out) Try.underlying39 rfl (by kernel_rfl)) rfl ?_
        exact ⟨by first | rfl | (simp [errW_none, errW_some] <;> rfl) | (simp [*, errW_none, errW_some] <;> rfl), by repeat (first | (with_reducible first | exact HB.out | apply below_alloc | apply pw_below_drewN | apply below_drew1 | refine below_set ?_ GE142.out | refine below_set ?_ GE143.out) | exact HB.out)⟩
       ·replace c24 := Bool.eq_false_iff.mpr c24
        subst c24
        have H1 : (some (0, 0, (⟨#[]⟩ : ByteArray), 0, 6)) = some (r1, r2, r3, r4, r5) := by rw [if_neg (show ¬ (false = true) by decide)] at H; exact H
        clear H
        have H := H1
        clear H1
        simp only [Option.some.injEq, Prod.mk.injEq] at H
        obtain ⟨rfl, rfl, rfl, rfl, rfl⟩ := H
        go_enter Try.func36, Try.ntmps36
        go_wp2_with (first | ((with_reducible refine gate_dst (N := 4) rfl ?_); refine box_event ?hg (N := 4) ?hd (cs := #[.int .i64 0, .int .i64 0, .string (⟨#[]⟩ : ByteArray), .int .u64 0]) (t := 39) ?hr ?_; (case hd => rfl); (case hg => rfl); (case hr => first | (go_simp; done) | (go_simp; rfl)); intro gb142 hg w30 hbox hb; have n0_ := Aside0.mk (below_step (by repeat (first | (with_reducible first | exact HB.out | apply below_alloc | apply pw_below_drewN | apply below_drew1) | exact HB.out)) hb); have n1_ := Aside0.mk (hbox); have n2_ := Aside0.mk ((by rw [hg]; exact (below_size (by repeat (first | (with_reducible first | exact HB.out | apply below_alloc | apply pw_below_drewN | apply below_drew1) | exact HB.out))) : w.heap.size ≤ gb142)); have n3_ := Aside0.mk ((by rw [hg]; exact (below_size (by repeat (first | (with_reducible first | exact HB.out | apply below_alloc | apply pw_below_drewN | apply below_drew1) | exact HB.out))) : w.heap.size ≤ gb142)); clear HB; have HB := n0_; have BK142 := n1_; have GW142 := n2_; have GE142 := n3_; clear n0_ n1_ n2_ n3_; clear hb hbox hg; have p5 : 0 ≤ (a1 : Int) := of_decide_eq_true (by first | (with_reducible assumption) | assumption); have q5 : a1 < (a0.size : Int) := of_decide_eq_true (by first | (with_reducible assumption) | assumption); have hx5 := bt_at a0 a1; replace p5 := eq_true p5; replace q5 := eq_true q5) | ((with_reducible refine gate_dst (N := 7) rfl ?_); refine box_event ?hg (N := 7) ?hd (cs := #[.int .i64 0, .int .i64 0, .string (⟨#[]⟩ : ByteArray), .int .u64 0]) (t := 39) ?hr ?_; (case hd => rfl); (case hg => rfl); (case hr => first | (go_simp; done) | (go_simp; rfl)); intro gb143 hg w31 hbox hb; have n0_ := Aside0.mk (blk_below (g := gb142) (o := .cells #[.int .i64 0, .int .i64 0, .string (⟨#[]⟩ : ByteArray), .int .u64 0] 39 (0, 0)) (by (with_reducible repeat (first | refine blk_drewN ?_ _ | refine blk_drew ?_ | refine blk_alloc ?_ _)); exact BK142.out) hb); have n1_ := Aside0.mk (below_step (by repeat (first | (with_reducible first | exact HB.out | apply below_alloc | apply pw_below_drewN | apply below_drew1 | refine below_set ?_ GE142.out) | exact HB.out)) hb); have n2_ := Aside0.mk (hbox); have n3_ := Aside0.mk ((by rw [hg]; exact (below_size (by repeat (first | (with_reducible first | exact HB.out | apply below_alloc | apply pw_below_drewN | apply below_drew1 | refine below_set ?_ GE142.out) | exact HB.out))) : w.heap.size ≤ gb143)); have n4_ := Aside0.mk ((by rw [hg]; exact (below_size (by repeat (first | (with_reducible first | exact HB.out | apply below_alloc | apply pw_below_drewN | apply below_drew1 | refine below_set ?_ GE142.out) | exact HB.out))) : w.heap.size ≤ gb143)); have n5_ := Aside0.mk ((by rw [hg]; exact Nat.ne_of_lt (blk_lt (g := gb142) (o := .cells #[.int .i64 0, .int .i64 0, .string (⟨#[]⟩ : ByteArray), .int .u64 0] 39 (0, 0)) (by (with_reducible repeat (first | refine blk_drewN ?_ _ | refine blk_drew ?_ | refine blk_alloc ?_ _)); exact BK142.out)) : gb142 ≠ gb143)); have n6_ := Aside0.mk ((by rw [hg]; exact Nat.ne_of_gt (blk_lt (g := gb142) (o := .cells #[.int .i64 0, .int .i64 0, .string (⟨#[]⟩ : ByteArray), .int .u64 0] 39 (0, 0)) (by (with_reducible repeat (first | refine blk_drewN ?_ _ | refine blk_drew ?_ | refine blk_alloc ?_ _)); exact BK142.out)) : gb143 ≠ gb142)); clear BK142; clear HB; have BK142 := n0_; have HB := n1_; have BK143 := n2_; have GW143 := n3_; have GE143 := n4_; have NB142_143 := n5_; have NB143_142 := n6_; clear n0_ n1_ n2_ n3_ n4_ n5_ n6_; clear hb hbox hg; have hnb32 := NB143_142.out; have hnc32 := NB142_143.out; obtain ⟨hcz33_0, hcz33_1, hcz33_2, hcz33_3⟩ := Mine.cells4 BK143.out; have hfz33_0 := blk_frozen BK143.out) | ((with_reducible refine gate_callee (f := 45) rfl ?_); refine goesL_ (some 16) rfl rfl Try.func45 (by kernel_rfl) rfl #[.int .u8 (bt a0 a1)] rfl (by (try simp only [List.map_toArray, List.map_cons, List.map_nil]); first | done | rfl | (simp only [List.length_drop, List.length_take]; rfl)) ?_; (with_reducible refine (fairleadref09_small.calls (bt a0 a1) false _ A6.out).mono ?_); rintro e w' ⟨rfl, ⟨nd, rfl⟩⟩; refine ⟨_, rfl, ?_⟩) | ((with_reducible refine gate_callee (f := 47) rfl ?_); refine goesL_ (some 29) rfl rfl Try.func47 (by kernel_rfl) rfl #[.int .u8 (bt a0 a1)] rfl (by (try simp only [List.map_toArray, List.map_cons, List.map_nil]); first | done | rfl | (simp only [List.length_drop, List.length_take]; rfl)) ?_; (with_reducible refine (fairleadref09_digit.calls (bt a0 a1) true _ A17.out).mono ?_); rintro e w' ⟨rfl, ⟨nd, rfl⟩⟩; refine ⟨_, rfl, ?_⟩) | ((with_reducible refine gate_callee (f := 46) rfl ?_); refine goesL_ (some 36) rfl rfl Try.func46 (by kernel_rfl) rfl #[.string a0, .int .i64 a1] rfl (by (try simp only [List.map_toArray, List.map_cons, List.map_nil]); first | done | rfl | (simp only [List.length_drop, List.length_take]; rfl)) ?_; (with_reducible refine (fairleadref09_run.calls k a0 a1 t147 _ A19.out).mono ?_); rintro e w' ⟨rfl, ⟨nd, rfl⟩⟩; refine ⟨_, rfl, ?_⟩) | ((with_reducible refine gate_callee (f := 48) rfl ?_); refine goesL_ (some 43) rfl rfl Try.func48 (by kernel_rfl) rfl #[.string (a0.extract (a1 : Int).toNat ((wrap64 (a1 + t147)) : Int).toNat)] rfl (by (try simp only [List.map_toArray, List.map_cons, List.map_nil]); first | done | rfl | (simp only [List.length_drop, List.length_take]; rfl)) ?_; (with_reducible refine (fairleadref09_Number.calls k (a0.extract (a1 : Int).toNat ((wrap64 (a1 + t147)) : Int).toNat) t148 false _ A23.out).mono ?_); rintro e w' ⟨rfl, ⟨nd, rfl⟩⟩; refine ⟨_, rfl, ?_⟩; obtain ⟨hcz34_0, hcz34_1, hcz34_2, hcz34_3⟩ := Mine.cells4 BK142.out; have hfz34_0 := blk_frozen BK142.out))
        refine bodyPost_ret (results_ct rfl _ _ gb142 39 #[.int .i64 0, .int .i64 0, .string (⟨#[]⟩ : ByteArray), .int .u64 0] (0, 0) _ rfl (by (with_reducible repeat (first | refine blk_drewN ?_ _ | refine blk_drew ?_ | refine blk_alloc ?_ _)); refine blk_put (cs := #[.int .i64 0, .int .i64 0, .string (⟨#[]⟩ : ByteArray), .int .u64 0]) ?_ 3 _ rfl; (with_reducible repeat (first | refine blk_drewN ?_ _ | refine blk_drew ?_ | refine blk_alloc ?_ _)); refine blk_put (cs := #[.int .i64 0, .int .i64 0, .string (⟨#[]⟩ : ByteArray), .int .u64 0]) ?_ 2 _ rfl; (with_reducible repeat (first | refine blk_drewN ?_ _ | refine blk_drew ?_ | refine blk_alloc ?_ _)); refine blk_put (cs := #[.int .i64 0, .int .i64 0, .string (⟨#[]⟩ : ByteArray), .int .u64 0]) ?_ 1 _ rfl; (with_reducible repeat (first | refine blk_drewN ?_ _ | refine blk_drew ?_ | refine blk_alloc ?_ _)); refine blk_put (cs := #[.int .i64 0, .int .i64 0, .string (⟨#[]⟩ : ByteArray), .int .u64 0]) ?_ 0 _ rfl; (with_reducible repeat (first | refine blk_drewN ?_ _ | refine blk_drew ?_ | refine blk_alloc ?_ _)); refine blk_far ?_ NB142_143.out _; (with_reducible repeat (first | refine blk_drewN ?_ _ | refine blk_drew ?_ | refine blk_alloc ?_ _)); refine blk_far ?_ NB142_143.out _; (with_reducible repeat (first | refine blk_drewN ?_ _ | refine blk_drew ?_ | refine blk_alloc ?_ _)); refine blk_far ?_ NB142_143.out _; (with_reducible repeat (first | refine blk_drewN ?_ _ | refine blk_drew ?_ | refine blk_alloc ?_ _)); refine blk_far ?_ NB142_143.out _; (with_reducible repeat (first | refine blk_drewN ?_ _ | refine blk_drew ?_ | refine blk_alloc ?_ _)); refine blk_far ?_ NB142_143.out _; (with_reducible repeat (first | refine blk_drewN ?_ _ | refine blk_drew ?_ | refine blk_alloc ?_ _)); refine blk_far ?_ NB142_143.out _; (with_reducible repeat (first | refine blk_drewN ?_ _ | refine blk_drew ?_ | refine blk_alloc ?_ _)); refine blk_far ?_ NB142_143.out _; (with_reducible repeat (first | refine blk_drewN ?_ _ | refine blk_drew ?_ | refine blk_alloc ?_ _)); exact BK142.out) Try.underlying39 rfl (by kernel_rfl)) rfl ?_
        exact ⟨by first | rfl | (simp [errW_none, errW_some] <;> rfl) | (simp [*, errW_none, errW_some] <;> rfl), by repeat (first | (with_reducible first | exact HB.out | apply below_alloc | apply pw_below_drewN | apply below_drew1 | refine below_set ?_ GE142.out | refine below_set ?_ GE143.out) | exact HB.out)⟩
      ·rw [if_neg c22] at H
       exact absurd H (by simp)
     ·rw [if_neg c21] at H
      exact absurd H (by simp)
    ·replace c18 := Bool.eq_false_iff.mpr c18
     subst c18
     have H1 : (if (wrap64 (a1 + 1)) < (a0.size : Int) then (if 0 ≤ (wrap64 (a1 + 1)) then (if (bt a0 (wrap64 (a1 + 1))) = 61 then (if (bt a0 a1) = 61 then (fairleadref09_One.j0 k a0 a1 (bt a0 a1) true 3 a1 (⟨#[]⟩ : ByteArray) 0) else (if (bt a0 a1) = 33 then (fairleadref09_One.j0 k a0 a1 (bt a0 a1) true 3 a1 (⟨#[]⟩ : ByteArray) 0) else (if (bt a0 a1) = 60 then (fairleadref09_One.j0 k a0 a1 (bt a0 a1) true 3 a1 (⟨#[]⟩ : ByteArray) 0) else (fairleadref09_One.j0 k a0 a1 (bt a0 a1) ((bt a0 a1) == 62) 3 a1 (⟨#[]⟩ : ByteArray) 0)))) else (fairleadref09_One.j0 k a0 a1 (bt a0 a1) false 3 a1 (⟨#[]⟩ : ByteArray) 0)) else (none)) else (fairleadref09_One.j0 k a0 a1 (bt a0 a1) false 3 a1 (⟨#[]⟩ : ByteArray) 0)) = some (r1, r2, r3, r4, r5) := by rw [if_neg (show ¬ (false = true) by decide)] at H; exact H
     clear H
     have H := H1
     clear H1
     have HC35 := Aside0.mk H
     clear H
     go_enter Try.func36, Try.ntmps36
     go_upto_region 16 with (first | ((with_reducible refine gate_dst (N := 4) rfl ?_); refine box_event ?hg (N := 4) ?hd (cs := #[.int .i64 0, .int .i64 0, .string (⟨#[]⟩ : ByteArray), .int .u64 0]) (t := 39) ?hr ?_; (case hd => rfl); (case hg => rfl); (case hr => first | (go_simp; done) | (go_simp; rfl)); intro gb142 hg w36 hbox hb; have n0_ := Aside0.mk (below_step (by repeat (first | (with_reducible first | exact HB.out | apply below_alloc | apply pw_below_drewN | apply below_drew1) | exact HB.out)) hb); have n1_ := Aside0.mk (hbox); have n2_ := Aside0.mk ((by rw [hg]; exact (below_size (by repeat (first | (with_reducible first | exact HB.out | apply below_alloc | apply pw_below_drewN | apply below_drew1) | exact HB.out))) : w.heap.size ≤ gb142)); have n3_ := Aside0.mk ((by rw [hg]; exact (below_size (by repeat (first | (with_reducible first | exact HB.out | apply below_alloc | apply pw_below_drewN | apply below_drew1) | exact HB.out))) : w.heap.size ≤ gb142)); clear HB; have HB := n0_; have BK142 := n1_; have GW142 := n2_; have GE142 := n3_; clear n0_ n1_ n2_ n3_; clear hb hbox hg; have p5 : 0 ≤ (a1 : Int) := of_decide_eq_true (by first | (with_reducible assumption) | assumption); have q5 : a1 < (a0.size : Int) := of_decide_eq_true (by first | (with_reducible assumption) | assumption); have hx5 := bt_at a0 a1; replace p5 := eq_true p5; replace q5 := eq_true q5) | ((with_reducible refine gate_dst (N := 7) rfl ?_); refine box_event ?hg (N := 7) ?hd (cs := #[.int .i64 0, .int .i64 0, .string (⟨#[]⟩ : ByteArray), .int .u64 0]) (t := 39) ?hr ?_; (case hd => rfl); (case hg => rfl); (case hr => first | (go_simp; done) | (go_simp; rfl)); intro gb143 hg w37 hbox hb; have n0_ := Aside0.mk (blk_below (g := gb142) (o := .cells #[.int .i64 0, .int .i64 0, .string (⟨#[]⟩ : ByteArray), .int .u64 0] 39 (0, 0)) (by (with_reducible repeat (first | refine blk_drewN ?_ _ | refine blk_drew ?_ | refine blk_alloc ?_ _)); exact BK142.out) hb); have n1_ := Aside0.mk (below_step (by repeat (first | (with_reducible first | exact HB.out | apply below_alloc | apply pw_below_drewN | apply below_drew1 | refine below_set ?_ GE142.out) | exact HB.out)) hb); have n2_ := Aside0.mk (hbox); have n3_ := Aside0.mk ((by rw [hg]; exact (below_size (by repeat (first | (with_reducible first | exact HB.out | apply below_alloc | apply pw_below_drewN | apply below_drew1 | refine below_set ?_ GE142.out) | exact HB.out))) : w.heap.size ≤ gb143)); have n4_ := Aside0.mk ((by rw [hg]; exact (below_size (by repeat (first | (with_reducible first | exact HB.out | apply below_alloc | apply pw_below_drewN | apply below_drew1 | refine below_set ?_ GE142.out) | exact HB.out))) : w.heap.size ≤ gb143)); have n5_ := Aside0.mk ((by rw [hg]; exact Nat.ne_of_lt (blk_lt (g := gb142) (o := .cells #[.int .i64 0, .int .i64 0, .string (⟨#[]⟩ : ByteArray), .int .u64 0] 39 (0, 0)) (by (with_reducible repeat (first | refine blk_drewN ?_ _ | refine blk_drew ?_ | refine blk_alloc ?_ _)); exact BK142.out)) : gb142 ≠ gb143)); have n6_ := Aside0.mk ((by rw [hg]; exact Nat.ne_of_gt (blk_lt (g := gb142) (o := .cells #[.int .i64 0, .int .i64 0, .string (⟨#[]⟩ : ByteArray), .int .u64 0] 39 (0, 0)) (by (with_reducible repeat (first | refine blk_drewN ?_ _ | refine blk_drew ?_ | refine blk_alloc ?_ _)); exact BK142.out)) : gb143 ≠ gb142)); clear BK142; clear HB; have BK142 := n0_; have HB := n1_; have BK143 := n2_; have GW143 := n3_; have GE143 := n4_; have NB142_143 := n5_; have NB143_142 := n6_; clear n0_ n1_ n2_ n3_ n4_ n5_ n6_; clear hb hbox hg; have hnb38 := NB143_142.out; have hnc38 := NB142_143.out; obtain ⟨hcz39_0, hcz39_1, hcz39_2, hcz39_3⟩ := Mine.cells4 BK143.out; have hfz39_0 := blk_frozen BK143.out) | ((with_reducible refine gate_callee (f := 45) rfl ?_); refine goesL_ (some 16) rfl rfl Try.func45 (by kernel_rfl) rfl #[.int .u8 (bt a0 a1)] rfl (by (try simp only [List.map_toArray, List.map_cons, List.map_nil]); first | done | rfl | (simp only [List.length_drop, List.length_take]; rfl)) ?_; (with_reducible refine (fairleadref09_small.calls (bt a0 a1) false _ A6.out).mono ?_); rintro e w' ⟨rfl, ⟨nd, rfl⟩⟩; refine ⟨_, rfl, ?_⟩) | ((with_reducible refine gate_callee (f := 47) rfl ?_); refine goesL_ (some 29) rfl rfl Try.func47 (by kernel_rfl) rfl #[.int .u8 (bt a0 a1)] rfl (by (try simp only [List.map_toArray, List.map_cons, List.map_nil]); first | done | rfl | (simp only [List.length_drop, List.length_take]; rfl)) ?_; (with_reducible refine (fairleadref09_digit.calls (bt a0 a1) false _ A17.out).mono ?_); rintro e w' ⟨rfl, ⟨nd, rfl⟩⟩; refine ⟨_, rfl, ?_⟩))
     (try simp only [Act.put, List.setIfInBounds_toArray, List.set_cons_zero, List.set_cons_succ])
     go_cut [80] (fun v80 wc => ∃ (kq : Nat) (x80_34 : Bool), v80 = .bool x80_34 ∧ Aside0 (fairleadref09_One.j0 kq a0 a1 (bt a0 a1) x80_34 3 a1 (⟨#[]⟩ : ByteArray) 0 = some (r1, r2, r3, r4, r5)) ∧ Aside0 (kq ≤ k) ∧ Aside0 (wc.heap[gb142]? = some (.cells #[.int .i64 0, .int .i64 0, .string (⟨#[]⟩ : ByteArray), .int .u64 0] 39 (0, 0))) ∧ Aside0 (wc.heap[gb143]? = some (.cells #[.int .i64 3, .int .i64 a1, .string (⟨#[]⟩ : ByteArray), .int .u64 0] 39 (0, 0))) ∧ Aside0 (Below w.heap.size w wc))
     case first =>
      have H := HC35.out
      clear HC35
      by_cases c40 : (wrap64 (a1 + 1)) < (a0.size : Int)
      ·rw [if_pos c40] at H
       have c40b0 : decide ((wrap64 (a1 + 1)) < (a0.size : Int)) = true := decide_eq_true c40
       clear c40
       (first | rw [c40b0] | (simp only [i64_w, i32_w]; rw [c40b0]) | skip)
       obtain ⟨ji41, hji41⟩ : ∃ j_ : Int, (wrap64 (a1 + 1)) = j_ := ⟨_, rfl⟩
       replace H : (if 0 ≤ (ji41) then (if (bt a0 (ji41)) = 61 then (if (bt a0 a1) = 61 then (fairleadref09_One.j0 k a0 a1 (bt a0 a1) true 3 a1 (⟨#[]⟩ : ByteArray) 0) else (if (bt a0 a1) = 33 then (fairleadref09_One.j0 k a0 a1 (bt a0 a1) true 3 a1 (⟨#[]⟩ : ByteArray) 0) else (if (bt a0 a1) = 60 then (fairleadref09_One.j0 k a0 a1 (bt a0 a1) true 3 a1 (⟨#[]⟩ : ByteArray) 0) else (fairleadref09_One.j0 k a0 a1 (bt a0 a1) ((bt a0 a1) == 62) 3 a1 (⟨#[]⟩ : ByteArray) 0)))) else (fairleadref09_One.j0 k a0 a1 (bt a0 a1) false 3 a1 (⟨#[]⟩ : ByteArray) 0)) else (none)) = some (r1, r2, r3, r4, r5) := by first | (rw [hji41] at H; exact H) | (simp only [hji41] at H ⊢; exact H)
       (try rw [hji41] at c40b0)
       have hji41w : (IntKind.i64.wrap (a1 + 1)) = ji41 := (i64_w _).trans hji41
       by_cases c42 : 0 ≤ (ji41)
       ·rw [if_pos c42] at H
        have c42b0 : decide (0 ≤ (ji41)) = true := decide_eq_true c42
        clear c42
        by_cases c44 : (bt a0 (ji41)) = 61
        ·rw [if_pos c44] at H
         have c44b0 : ((bt a0 (ji41)) == 61) = true := beq_iff_eq.mpr c44
         have c44b1 : ((bt a0 (ji41)) != 61) = false := bne_eq_false_iff_eq.mpr c44
         clear c44
         by_cases c45 : (bt a0 a1) = 61
         ·rw [if_pos c45] at H
          have c45b0 : ((bt a0 a1) == 61) = true := beq_iff_eq.mpr c45
          have c45b1 : ((bt a0 a1) != 61) = false := bne_eq_false_iff_eq.mpr c45
          clear c45
          have H' := Aside0.mk H
          clear H
          have p43 : 0 ≤ ((ji41) : Int) := of_decide_eq_true (by first | (with_reducible assumption) | assumption)
          have q43 : (ji41) < (a0.size : Int) := of_decide_eq_true (by first | (with_reducible assumption) | assumption)
          have hx43 := bt_at a0 (ji41)
          replace p43 := eq_true p43
          replace q43 := eq_true q43
          go_wp2
          go_meet
          case rel => exact ⟨_, (true), (by first | rfl | (simp; done) | (simp [*]; done)), H', ⟨by first | omega | exact Nat.le_refl _⟩, ⟨by (with_reducible repeat (first | refine blk_drewN ?_ _ | refine blk_drew ?_ | refine blk_alloc ?_ _)); refine blk_far ?_ NB142_143.out _; (with_reducible repeat (first | refine blk_drewN ?_ _ | refine blk_drew ?_ | refine blk_alloc ?_ _)); refine blk_far ?_ NB142_143.out _; (with_reducible repeat (first | refine blk_drewN ?_ _ | refine blk_drew ?_ | refine blk_alloc ?_ _)); refine blk_far ?_ NB142_143.out _; (with_reducible repeat (first | refine blk_drewN ?_ _ | refine blk_drew ?_ | refine blk_alloc ?_ _)); refine blk_far ?_ NB142_143.out _; (with_reducible repeat (first | refine blk_drewN ?_ _ | refine blk_drew ?_ | refine blk_alloc ?_ _)); refine blk_far ?_ NB142_143.out _; (with_reducible repeat (first | refine blk_drewN ?_ _ | refine blk_drew ?_ | refine blk_alloc ?_ _)); exact BK142.out⟩, ⟨by (with_reducible repeat (first | refine blk_drewN ?_ _ | refine blk_drew ?_ | refine blk_alloc ?_ _)); refine blk_put (cs := #[.int .i64 0, .int .i64 a1, .string (⟨#[]⟩ : ByteArray), .int .u64 0]) ?_ 0 _ rfl; (with_reducible repeat (first | refine blk_drewN ?_ _ | refine blk_drew ?_ | refine blk_alloc ?_ _)); refine blk_put (cs := #[.int .i64 0, .int .i64 a1, .string (⟨#[]⟩ : ByteArray), .int .u64 0]) ?_ 3 _ rfl; (with_reducible repeat (first | refine blk_drewN ?_ _ | refine blk_drew ?_ | refine blk_alloc ?_ _)); refine blk_put (cs := #[.int .i64 0, .int .i64 a1, .string (⟨#[]⟩ : ByteArray), .int .u64 0]) ?_ 2 _ rfl; (with_reducible repeat (first | refine blk_drewN ?_ _ | refine blk_drew ?_ | refine blk_alloc ?_ _)); refine blk_put (cs := #[.int .i64 0, .int .i64 0, .string (⟨#[]⟩ : ByteArray), .int .u64 0]) ?_ 1 _ rfl; (with_reducible repeat (first | refine blk_drewN ?_ _ | refine blk_drew ?_ | refine blk_alloc ?_ _)); refine blk_put (cs := #[.int .i64 0, .int .i64 0, .string (⟨#[]⟩ : ByteArray), .int .u64 0]) ?_ 0 _ rfl; (with_reducible repeat (first | refine blk_drewN ?_ _ | refine blk_drew ?_ | refine blk_alloc ?_ _)); exact BK143.out⟩, ⟨by repeat (first | (with_reducible first | exact HB.out | apply below_alloc | apply pw_below_drewN | apply below_drew1 | refine below_set ?_ GE142.out | refine below_set ?_ GE143.out) | exact HB.out)⟩⟩
         ·rw [if_neg c45] at H
          have c45b0 : ((bt a0 a1) == 61) = false := beq_eq_false_iff_ne.mpr c45
          have c45b1 : ((bt a0 a1) != 61) = true := bne_iff_ne.mpr c45
          by_cases c46 : (bt a0 a1) = 33
          ·rw [if_pos c46] at H
           have c46b0 : ((bt a0 a1) == 33) = true := beq_iff_eq.mpr c46
           have c46b1 : ((bt a0 a1) != 33) = false := bne_eq_false_iff_eq.mpr c46
           clear c46
           have H' := Aside0.mk H
           clear H
           have p43 : 0 ≤ ((ji41) : Int) := of_decide_eq_true (by first | (with_reducible assumption) | assumption)
           have q43 : (ji41) < (a0.size : Int) := of_decide_eq_true (by first | (with_reducible assumption) | assumption)
           have hx43 := bt_at a0 (ji41)
           replace p43 := eq_true p43
           replace q43 := eq_true q43
           go_wp2
           go_meet
           case rel => exact ⟨_, (true), (by first | rfl | (simp; done) | (simp [*]; done)), H', ⟨by first | omega | exact Nat.le_refl _⟩, ⟨by (with_reducible repeat (first | refine blk_drewN ?_ _ | refine blk_drew ?_ | refine blk_alloc ?_ _)); refine blk_far ?_ NB142_143.out _; (with_reducible repeat (first | refine blk_drewN ?_ _ | refine blk_drew ?_ | refine blk_alloc ?_ _)); refine blk_far ?_ NB142_143.out _; (with_reducible repeat (first | refine blk_drewN ?_ _ | refine blk_drew ?_ | refine blk_alloc ?_ _)); refine blk_far ?_ NB142_143.out _; (with_reducible repeat (first | refine blk_drewN ?_ _ | refine blk_drew ?_ | refine blk_alloc ?_ _)); refine blk_far ?_ NB142_143.out _; (with_reducible repeat (first | refine blk_drewN ?_ _ | refine blk_drew ?_ | refine blk_alloc ?_ _)); refine blk_far ?_ NB142_143.out _; (with_reducible repeat (first | refine blk_drewN ?_ _ | refine blk_drew ?_ | refine blk_alloc ?_ _)); exact BK142.out⟩, ⟨by (with_reducible repeat (first | refine blk_drewN ?_ _ | refine blk_drew ?_ | refine blk_alloc ?_ _)); refine blk_put (cs := #[.int .i64 0, .int .i64 a1, .string (⟨#[]⟩ : ByteArray), .int .u64 0]) ?_ 0 _ rfl; (with_reducible repeat (first | refine blk_drewN ?_ _ | refine blk_drew ?_ | refine blk_alloc ?_ _)); refine blk_put (cs := #[.int .i64 0, .int .i64 a1, .string (⟨#[]⟩ : ByteArray), .int .u64 0]) ?_ 3 _ rfl; (with_reducible repeat (first | refine blk_drewN ?_ _ | refine blk_drew ?_ | refine blk_alloc ?_ _)); refine blk_put (cs := #[.int .i64 0, .int .i64 a1, .string (⟨#[]⟩ : ByteArray), .int .u64 0]) ?_ 2 _ rfl; (with_reducible repeat (first | refine blk_drewN ?_ _ | refine blk_drew ?_ | refine blk_alloc ?_ _)); refine blk_put (cs := #[.int .i64 0, .int .i64 0, .string (⟨#[]⟩ : ByteArray), .int .u64 0]) ?_ 1 _ rfl; (with_reducible repeat (first | refine blk_drewN ?_ _ | refine blk_drew ?_ | refine blk_alloc ?_ _)); refine blk_put (cs := #[.int .i64 0, .int .i64 0, .string (⟨#[]⟩ : ByteArray), .int .u64 0]) ?_ 0 _ rfl; (with_reducible repeat (first | refine blk_drewN ?_ _ | refine blk_drew ?_ | refine blk_alloc ?_ _)); exact BK143.out⟩, ⟨by repeat (first | (with_reducible first | exact HB.out | apply below_alloc | apply pw_below_drewN | apply below_drew1 | refine below_set ?_ GE142.out | refine below_set ?_ GE143.out) | exact HB.out)⟩⟩
          ·rw [if_neg c46] at H
           have c46b0 : ((bt a0 a1) == 33) = false := beq_eq_false_iff_ne.mpr c46
           have c46b1 : ((bt a0 a1) != 33) = true := bne_iff_ne.mpr c46
           by_cases c47 : (bt a0 a1) = 60
           ·rw [if_pos c47] at H
            have c47b0 : ((bt a0 a1) == 60) = true := beq_iff_eq.mpr c47
            have c47b1 : ((bt a0 a1) != 60) = false := bne_eq_false_iff_eq.mpr c47
            clear c47
            have H' := Aside0.mk H
            clear H
            have p43 : 0 ≤ ((ji41) : Int) := of_decide_eq_true (by first | (with_reducible assumption) | assumption)
            have q43 : (ji41) < (a0.size : Int) := of_decide_eq_true (by first | (with_reducible assumption) | assumption)
            have hx43 := bt_at a0 (ji41)
            replace p43 := eq_true p43
            replace q43 := eq_true q43
            go_wp2
            go_meet
            case rel => exact ⟨_, (true), (by first | rfl | (simp; done) | (simp [*]; done)), H', ⟨by first | omega | exact Nat.le_refl _⟩, ⟨by (with_reducible repeat (first | refine blk_drewN ?_ _ | refine blk_drew ?_ | refine blk_alloc ?_ _)); refine blk_far ?_ NB142_143.out _; (with_reducible repeat (first | refine blk_drewN ?_ _ | refine blk_drew ?_ | refine blk_alloc ?_ _)); refine blk_far ?_ NB142_143.out _; (with_reducible repeat (first | refine blk_drewN ?_ _ | refine blk_drew ?_ | refine blk_alloc ?_ _)); refine blk_far ?_ NB142_143.out _; (with_reducible repeat (first | refine blk_drewN ?_ _ | refine blk_drew ?_ | refine blk_alloc ?_ _)); refine blk_far ?_ NB142_143.out _; (with_reducible repeat (first | refine blk_drewN ?_ _ | refine blk_drew ?_ | refine blk_alloc ?_ _)); refine blk_far ?_ NB142_143.out _; (with_reducible repeat (first | refine blk_drewN ?_ _ | refine blk_drew ?_ | refine blk_alloc ?_ _)); exact BK142.out⟩, ⟨by (with_reducible repeat (first | refine blk_drewN ?_ _ | refine blk_drew ?_ | refine blk_alloc ?_ _)); refine blk_put (cs := #[.int .i64 0, .int .i64 a1, .string (⟨#[]⟩ : ByteArray), .int .u64 0]) ?_ 0 _ rfl; (with_reducible repeat (first | refine blk_drewN ?_ _ | refine blk_drew ?_ | refine blk_alloc ?_ _)); refine blk_put (cs := #[.int .i64 0, .int .i64 a1, .string (⟨#[]⟩ : ByteArray), .int .u64 0]) ?_ 3 _ rfl; (with_reducible repeat (first | refine blk_drewN ?_ _ | refine blk_drew ?_ | refine blk_alloc ?_ _)); refine blk_put (cs := #[.int .i64 0, .int .i64 a1, .string (⟨#[]⟩ : ByteArray), .int .u64 0]) ?_ 2 _ rfl; (with_reducible repeat (first | refine blk_drewN ?_ _ | refine blk_drew ?_ | refine blk_alloc ?_ _)); refine blk_put (cs := #[.int .i64 0, .int .i64 0, .string (⟨#[]⟩ : ByteArray), .int .u64 0]) ?_ 1 _ rfl; (with_reducible repeat (first | refine blk_drewN ?_ _ | refine blk_drew ?_ | refine blk_alloc ?_ _)); refine blk_put (cs := #[.int .i64 0, .int .i64 0, .string (⟨#[]⟩ : ByteArray), .int .u64 0]) ?_ 0 _ rfl; (with_reducible repeat (first | refine blk_drewN ?_ _ | refine blk_drew ?_ | refine blk_alloc ?_ _)); exact BK143.out⟩, ⟨by repeat (first | (with_reducible first | exact HB.out | apply below_alloc | apply pw_below_drewN | apply below_drew1 | refine below_set ?_ GE142.out | refine below_set ?_ GE143.out) | exact HB.out)⟩⟩
           ·rw [if_neg c47] at H
            have c47b0 : ((bt a0 a1) == 60) = false := beq_eq_false_iff_ne.mpr c47
            have c47b1 : ((bt a0 a1) != 60) = true := bne_iff_ne.mpr c47
            have H' := Aside0.mk H
            clear H
            have p43 : 0 ≤ ((ji41) : Int) := of_decide_eq_true (by first | (with_reducible assumption) | assumption)
            have q43 : (ji41) < (a0.size : Int) := of_decide_eq_true (by first | (with_reducible assumption) | assumption)
            have hx43 := bt_at a0 (ji41)
            replace p43 := eq_true p43
            replace q43 := eq_true q43
            go_wp2
            go_meet
            case rel => exact ⟨_, (((bt a0 a1) == 62)), (by first | rfl | (simp; done) | (simp [*]; done)), H', ⟨by first | omega | exact Nat.le_refl _⟩, ⟨by (with_reducible repeat (first | refine blk_drewN ?_ _ | refine blk_drew ?_ | refine blk_alloc ?_ _)); refine blk_far ?_ NB142_143.out _; (with_reducible repeat (first | refine blk_drewN ?_ _ | refine blk_drew ?_ | refine blk_alloc ?_ _)); refine blk_far ?_ NB142_143.out _; (with_reducible repeat (first | refine blk_drewN ?_ _ | refine blk_drew ?_ | refine blk_alloc ?_ _)); refine blk_far ?_ NB142_143.out _; (with_reducible repeat (first | refine blk_drewN ?_ _ | refine blk_drew ?_ | refine blk_alloc ?_ _)); refine blk_far ?_ NB142_143.out _; (with_reducible repeat (first | refine blk_drewN ?_ _ | refine blk_drew ?_ | refine blk_alloc ?_ _)); refine blk_far ?_ NB142_143.out _; (with_reducible repeat (first | refine blk_drewN ?_ _ | refine blk_drew ?_ | refine blk_alloc ?_ _)); exact BK142.out⟩, ⟨by (with_reducible repeat (first | refine blk_drewN ?_ _ | refine blk_drew ?_ | refine blk_alloc ?_ _)); refine blk_put (cs := #[.int .i64 0, .int .i64 a1, .string (⟨#[]⟩ : ByteArray), .int .u64 0]) ?_ 0 _ rfl; (with_reducible repeat (first | refine blk_drewN ?_ _ | refine blk_drew ?_ | refine blk_alloc ?_ _)); refine blk_put (cs := #[.int .i64 0, .int .i64 a1, .string (⟨#[]⟩ : ByteArray), .int .u64 0]) ?_ 3 _ rfl; (with_reducible repeat (first | refine blk_drewN ?_ _ | refine blk_drew ?_ | refine blk_alloc ?_ _)); refine blk_put (cs := #[.int .i64 0, .int .i64 a1, .string (⟨#[]⟩ : ByteArray), .int .u64 0]) ?_ 2 _ rfl; (with_reducible repeat (first | refine blk_drewN ?_ _ | refine blk_drew ?_ | refine blk_alloc ?_ _)); refine blk_put (cs := #[.int .i64 0, .int .i64 0, .string (⟨#[]⟩ : ByteArray), .int .u64 0]) ?_ 1 _ rfl; (with_reducible repeat (first | refine blk_drewN ?_ _ | refine blk_drew ?_ | refine blk_alloc ?_ _)); refine blk_put (cs := #[.int .i64 0, .int .i64 0, .string (⟨#[]⟩ : ByteArray), .int .u64 0]) ?_ 0 _ rfl; (with_reducible repeat (first | refine blk_drewN ?_ _ | refine blk_drew ?_ | refine blk_alloc ?_ _)); exact BK143.out⟩, ⟨by repeat (first | (with_reducible first | exact HB.out | apply below_alloc | apply pw_below_drewN | apply below_drew1 | refine below_set ?_ GE142.out | refine below_set ?_ GE143.out) | exact HB.out)⟩⟩
        ·rw [if_neg c44] at H
         have c44b0 : ((bt a0 (ji41)) == 61) = false := beq_eq_false_iff_ne.mpr c44
         have c44b1 : ((bt a0 (ji41)) != 61) = true := bne_iff_ne.mpr c44
         have H' := Aside0.mk H
         clear H
         have p43 : 0 ≤ ((ji41) : Int) := of_decide_eq_true (by first | (with_reducible assumption) | assumption)
         have q43 : (ji41) < (a0.size : Int) := of_decide_eq_true (by first | (with_reducible assumption) | assumption)
         have hx43 := bt_at a0 (ji41)
         replace p43 := eq_true p43
         replace q43 := eq_true q43
         go_wp2
         go_meet
         case rel => exact ⟨_, (false), (by first | rfl | (simp; done) | (simp [*]; done)), H', ⟨by first | omega | exact Nat.le_refl _⟩, ⟨by (with_reducible repeat (first | refine blk_drewN ?_ _ | refine blk_drew ?_ | refine blk_alloc ?_ _)); refine blk_far ?_ NB142_143.out _; (with_reducible repeat (first | refine blk_drewN ?_ _ | refine blk_drew ?_ | refine blk_alloc ?_ _)); refine blk_far ?_ NB142_143.out _; (with_reducible repeat (first | refine blk_drewN ?_ _ | refine blk_drew ?_ | refine blk_alloc ?_ _)); refine blk_far ?_ NB142_143.out _; (with_reducible repeat (first | refine blk_drewN ?_ _ | refine blk_drew ?_ | refine blk_alloc ?_ _)); refine blk_far ?_ NB142_143.out _; (with_reducible repeat (first | refine blk_drewN ?_ _ | refine blk_drew ?_ | refine blk_alloc ?_ _)); refine blk_far ?_ NB142_143.out _; (with_reducible repeat (first | refine blk_drewN ?_ _ | refine blk_drew ?_ | refine blk_alloc ?_ _)); exact BK142.out⟩, ⟨by (with_reducible repeat (first | refine blk_drewN ?_ _ | refine blk_drew ?_ | refine blk_alloc ?_ _)); refine blk_put (cs := #[.int .i64 0, .int .i64 a1, .string (⟨#[]⟩ : ByteArray), .int .u64 0]) ?_ 0 _ rfl; (with_reducible repeat (first | refine blk_drewN ?_ _ | refine blk_drew ?_ | refine blk_alloc ?_ _)); refine blk_put (cs := #[.int .i64 0, .int .i64 a1, .string (⟨#[]⟩ : ByteArray), .int .u64 0]) ?_ 3 _ rfl; (with_reducible repeat (first | refine blk_drewN ?_ _ | refine blk_drew ?_ | refine blk_alloc ?_ _)); refine blk_put (cs := #[.int .i64 0, .int .i64 a1, .string (⟨#[]⟩ : ByteArray), .int .u64 0]) ?_ 2 _ rfl; (with_reducible repeat (first | refine blk_drewN ?_ _ | refine blk_drew ?_ | refine blk_alloc ?_ _)); refine blk_put (cs := #[.int .i64 0, .int .i64 0, .string (⟨#[]⟩ : ByteArray), .int .u64 0]) ?_ 1 _ rfl; (with_reducible repeat (first | refine blk_drewN ?_ _ | refine blk_drew ?_ | refine blk_alloc ?_ _)); refine blk_put (cs := #[.int .i64 0, .int .i64 0, .string (⟨#[]⟩ : ByteArray), .int .u64 0]) ?_ 0 _ rfl; (with_reducible repeat (first | refine blk_drewN ?_ _ | refine blk_drew ?_ | refine blk_alloc ?_ _)); exact BK143.out⟩, ⟨by repeat (first | (with_reducible first | exact HB.out | apply below_alloc | apply pw_below_drewN | apply below_drew1 | refine below_set ?_ GE142.out | refine below_set ?_ GE143.out) | exact HB.out)⟩⟩
       ·rw [if_neg c42] at H
        exact absurd H (by simp)
      ·rw [if_neg c40] at H
       have c40b0 : decide ((wrap64 (a1 + 1)) < (a0.size : Int)) = false := decide_eq_false c40
       clear c40
       (first | rw [c40b0] | (simp only [i64_w, i32_w]; rw [c40b0]) | skip)
       have H' := Aside0.mk H
       clear H
       go_wp2
       go_meet
       case rel => exact ⟨_, (false), (by first | rfl | (simp; done) | (simp [*]; done)), H', ⟨by first | omega | exact Nat.le_refl _⟩, ⟨by (with_reducible repeat (first | refine blk_drewN ?_ _ | refine blk_drew ?_ | refine blk_alloc ?_ _)); refine blk_far ?_ NB142_143.out _; (with_reducible repeat (first | refine blk_drewN ?_ _ | refine blk_drew ?_ | refine blk_alloc ?_ _)); refine blk_far ?_ NB142_143.out _; (with_reducible repeat (first | refine blk_drewN ?_ _ | refine blk_drew ?_ | refine blk_alloc ?_ _)); refine blk_far ?_ NB142_143.out _; (with_reducible repeat (first | refine blk_drewN ?_ _ | refine blk_drew ?_ | refine blk_alloc ?_ _)); refine blk_far ?_ NB142_143.out _; (with_reducible repeat (first | refine blk_drewN ?_ _ | refine blk_drew ?_ | refine blk_alloc ?_ _)); refine blk_far ?_ NB142_143.out _; (with_reducible repeat (first | refine blk_drewN ?_ _ | refine blk_drew ?_ | refine blk_alloc ?_ _)); exact BK142.out⟩, ⟨by (with_reducible repeat (first | refine blk_drewN ?_ _ | refine blk_drew ?_ | refine blk_alloc ?_ _)); refine blk_put (cs := #[.int .i64 0, .int .i64 a1, .string (⟨#[]⟩ : ByteArray), .int .u64 0]) ?_ 0 _ rfl; (with_reducible repeat (first | refine blk_drewN ?_ _ | refine blk_drew ?_ | refine blk_alloc ?_ _)); refine blk_put (cs := #[.int .i64 0, .int .i64 a1, .string (⟨#[]⟩ : ByteArray), .int .u64 0]) ?_ 3 _ rfl; (with_reducible repeat (first | refine blk_drewN ?_ _ | refine blk_drew ?_ | refine blk_alloc ?_ _)); refine blk_put (cs := #[.int .i64 0, .int .i64 a1, .string (⟨#[]⟩ : ByteArray), .int .u64 0]) ?_ 2 _ rfl; (with_reducible repeat (first | refine blk_drewN ?_ _ | refine blk_drew ?_ | refine blk_alloc ?_ _)); refine blk_put (cs := #[.int .i64 0, .int .i64 0, .string (⟨#[]⟩ : ByteArray), .int .u64 0]) ?_ 1 _ rfl; (with_reducible repeat (first | refine blk_drewN ?_ _ | refine blk_drew ?_ | refine blk_alloc ?_ _)); refine blk_put (cs := #[.int .i64 0, .int .i64 0, .string (⟨#[]⟩ : ByteArray), .int .u64 0]) ?_ 0 _ rfl; (with_reducible repeat (first | refine blk_drewN ?_ _ | refine blk_drew ?_ | refine blk_alloc ?_ _)); exact BK143.out⟩, ⟨by repeat (first | (with_reducible first | exact HB.out | apply below_alloc | apply pw_below_drewN | apply below_drew1 | refine below_set ?_ GE142.out | refine below_set ?_ GE143.out) | exact HB.out)⟩⟩
     case rest =>
      clear HC35
      try clear c1
      try clear c2
      try clear p2
      try clear c3
      try clear c3b0
      try clear c4
      try clear c4b0
      try clear p4
      try clear q4
      try clear hx4
      try clear p5
      try clear q5
      try clear hx5
      try clear p6
      try clear c7
      try clear c9
      try clear c9b0
      try clear c10
      try clear c10b0
      try clear c10b1
      try clear c11
      try clear c11b0
      try clear c11b1
      try clear c14
      try clear c18
      try clear c20
      try clear c20b0
      try clear c21
      try clear c21b0
      try clear c21b1
      try clear c22
      try clear c22b0
      try clear c22b1
      try clear c24
      try clear c27
      try clear c32
      try clear c36
      try clear c38
      try clear c40
      try clear c40b0
      try clear c42
      try clear c42b0
      try clear p43
      try clear q43
      try clear hx43
      try clear c44
      try clear c44b0
      try clear c44b1
      try clear c45
      try clear c45b0
      try clear c45b1
      try clear c46
      try clear c46b0
      try clear c46b1
      try clear c47
      try clear c47b0
      try clear c47b1
      try clear hcz15_0 hcz15_1 hcz15_2 hcz15_3
      try clear hcz16_0 hcz16_1 hcz16_2 hcz16_3
      try clear hcz28_0 hcz28_1 hcz28_2 hcz28_3
      try clear hcz29_0 hcz29_1 hcz29_2 hcz29_3
      try clear hcz33_0 hcz33_1 hcz33_2 hcz33_3
      try clear hcz34_0 hcz34_1 hcz34_2 hcz34_3
      try clear hcz39_0 hcz39_1 hcz39_2 hcz39_3
      try clear hfz15_0
      try clear hfz16_0
      try clear hfz28_0
      try clear hfz29_0
      try clear hfz33_0
      try clear hfz34_0
      try clear hfz39_0
      try clear p43
      try clear p5
      try clear q43
      try clear q5
      obtain ⟨kq, x80_34, rfl, HA, HJ34, BK142, BK143, HB⟩ := hcut
      cases kq with
      | zero => exact absurd HA.out (by simp [fairleadref09_One.j0])
      | succ kj34 =>
       have H := HA.out
       clear HA
       simp only [fairleadref09_One.j0] at H
       by_cases c48 : x80_34 = true
       ·subst c48
        have H1 : (if 0 ≤ a1 then (if a1 ≤ (wrap64 (a1 + 2)) then (if (wrap64 (a1 + 2)) ≤ (a0.size : Int) then (some (3, a1, a0.extract (a1 : Int).toNat ((wrap64 (a1 + 2)) : Int).toNat, 0, 0)) else (none)) else (none)) else (none)) = some (r1, r2, r3, r4, r5) := by rw [if_pos rfl] at H; exact H
        clear H
        have H := H1
        clear H1
        by_cases c49 : 0 ≤ a1
        ·rw [if_pos c49] at H
         have c49b0 := eq_true c49
         have c49b1 : decide (0 ≤ a1) = true := decide_eq_true c49
         clear c49
         by_cases c50 : a1 ≤ (wrap64 (a1 + 2))
         ·rw [if_pos c50] at H
          have c50b0 := eq_true c50
          have c50b1 : decide (a1 ≤ (wrap64 (a1 + 2))) = true := decide_eq_true c50
          by_cases c51 : (wrap64 (a1 + 2)) ≤ (a0.size : Int)
          ·rw [if_pos c51] at H
           have c51b0 := eq_true c51
           have c51b1 : decide ((wrap64 (a1 + 2)) ≤ (a0.size : Int)) = true := decide_eq_true c51
           simp only [Option.some.injEq, Prod.mk.injEq] at H
           obtain ⟨rfl, rfl, rfl, rfl, rfl⟩ := H
           have hnb52 := NB143_142.out
           have hnc52 := NB142_143.out
           obtain ⟨hcz53_0, hcz53_1, hcz53_2, hcz53_3⟩ := Mine.cells4 BK143.out
           have hfz53_0 := blk_frozen BK143.out
           obtain ⟨hcz54_0, hcz54_1, hcz54_2, hcz54_3⟩ := Mine.cells4 BK142.out
           have hfz54_0 := blk_frozen BK142.out
           go_wp2
           refine bodyPost_ret (results_ct rfl _ _ gb142 39 #[.int .i64 3, .int .i64 a1, .string (a0.extract (a1 : Int).toNat ((wrap64 (a1 + 2)) : Int).toNat), .int .u64 0] (0, 0) _ rfl (by (with_reducible repeat (first | refine blk_drewN ?_ _ | refine blk_drew ?_ | refine blk_alloc ?_ _)); refine blk_put (cs := #[.int .i64 3, .int .i64 a1, .string (a0.extract (a1 : Int).toNat ((wrap64 (a1 + 2)) : Int).toNat), .int .u64 0]) ?_ 3 _ rfl; (with_reducible repeat (first | refine blk_drewN ?_ _ | refine blk_drew ?_ | refine blk_alloc ?_ _)); refine blk_put (cs := #[.int .i64 3, .int .i64 a1, .string (⟨#[]⟩ : ByteArray), .int .u64 0]) ?_ 2 _ rfl; (with_reducible repeat (first | refine blk_drewN ?_ _ | refine blk_drew ?_ | refine blk_alloc ?_ _)); refine blk_put (cs := #[.int .i64 3, .int .i64 0, .string (⟨#[]⟩ : ByteArray), .int .u64 0]) ?_ 1 _ rfl; (with_reducible repeat (first | refine blk_drewN ?_ _ | refine blk_drew ?_ | refine blk_alloc ?_ _)); refine blk_put (cs := #[.int .i64 0, .int .i64 0, .string (⟨#[]⟩ : ByteArray), .int .u64 0]) ?_ 0 _ rfl; (with_reducible repeat (first | refine blk_drewN ?_ _ | refine blk_drew ?_ | refine blk_alloc ?_ _)); refine blk_far ?_ NB142_143.out _; (with_reducible repeat (first | refine blk_drewN ?_ _ | refine blk_drew ?_ | refine blk_alloc ?_ _)); exact BK142.out) Try.underlying39 rfl (by kernel_rfl)) rfl ?_
           exact ⟨by first | rfl | (simp [errW_none, errW_some] <;> rfl) | (simp [*, errW_none, errW_some] <;> rfl), by repeat (first | (with_reducible first | exact HB.out | apply below_alloc | apply pw_below_drewN | apply below_drew1 | refine below_set ?_ GE142.out | refine below_set ?_ GE143.out) | exact HB.out)⟩
          ·rw [if_neg c51] at H
           exact absurd H (by simp)
         ·rw [if_neg c50] at H
          exact absurd H (by simp)
        ·rw [if_neg c49] at H
         exact absurd H (by simp)
       ·replace c48 := Bool.eq_false_iff.mpr c48
        subst c48
        have H1 : (if (bt a0 a1) = 59 then (if 0 ≤ a1 then (if a1 ≤ (wrap64 (a1 + 1)) then (if (wrap64 (a1 + 1)) ≤ (a0.size : Int) then (some (3, a1, a0.extract (a1 : Int).toNat ((wrap64 (a1 + 1)) : Int).toNat, 0, 0)) else (none)) else (none)) else (none)) else (if (bt a0 a1) = 44 then (if 0 ≤ a1 then (if a1 ≤ (wrap64 (a1 + 1)) then (if (wrap64 (a1 + 1)) ≤ (a0.size : Int) then (some (3, a1, a0.extract (a1 : Int).toNat ((wrap64 (a1 + 1)) : Int).toNat, 0, 0)) else (none)) else (none)) else (none)) else (if (bt a0 a1) = 60 then (if 0 ≤ a1 then (if a1 ≤ (wrap64 (a1 + 1)) then (if (wrap64 (a1 + 1)) ≤ (a0.size : Int) then (some (3, a1, a0.extract (a1 : Int).toNat ((wrap64 (a1 + 1)) : Int).toNat, 0, 0)) else (none)) else (none)) else (none)) else (if (bt a0 a1) = 62 then (if 0 ≤ a1 then (if a1 ≤ (wrap64 (a1 + 1)) then (if (wrap64 (a1 + 1)) ≤ (a0.size : Int) then (some (3, a1, a0.extract (a1 : Int).toNat ((wrap64 (a1 + 1)) : Int).toNat, 0, 0)) else (none)) else (none)) else (none)) else (if (bt a0 a1) = 38 then (if 0 ≤ a1 then (if a1 ≤ (wrap64 (a1 + 1)) then (if (wrap64 (a1 + 1)) ≤ (a0.size : Int) then (some (3, a1, a0.extract (a1 : Int).toNat ((wrap64 (a1 + 1)) : Int).toNat, 0, 0)) else (none)) else (none)) else (none)) else (some (0, 0, (⟨#[]⟩ : ByteArray), 0, 5))))))) = some (r1, r2, r3, r4, r5) := by rw [if_neg (show ¬ (false = true) by decide)] at H; exact H
        clear H
        have H := H1
        clear H1
        by_cases c55 : (bt a0 a1) = 59
        ·rw [if_pos c55] at H
         have c55b0 : ((bt a0 a1) == 59) = true := beq_iff_eq.mpr c55
         have c55b1 : ((bt a0 a1) != 59) = false := bne_eq_false_iff_eq.mpr c55
         clear c55
         by_cases c56 : 0 ≤ a1
         ·rw [if_pos c56] at H
          have c56b0 := eq_true c56
          have c56b1 : decide (0 ≤ a1) = true := decide_eq_true c56
          clear c56
          by_cases c57 : a1 ≤ (wrap64 (a1 + 1))
          ·rw [if_pos c57] at H
           have c57b0 := eq_true c57
           have c57b1 : decide (a1 ≤ (wrap64 (a1 + 1))) = true := decide_eq_true c57
           by_cases c58 : (wrap64 (a1 + 1)) ≤ (a0.size : Int)
           ·rw [if_pos c58] at H
            have c58b0 := eq_true c58
            have c58b1 : decide ((wrap64 (a1 + 1)) ≤ (a0.size : Int)) = true := decide_eq_true c58
            simp only [Option.some.injEq, Prod.mk.injEq] at H
            obtain ⟨rfl, rfl, rfl, rfl, rfl⟩ := H
            have hnb59 := NB143_142.out
            have hnc59 := NB142_143.out
            obtain ⟨hcz60_0, hcz60_1, hcz60_2, hcz60_3⟩ := Mine.cells4 BK143.out
            have hfz60_0 := blk_frozen BK143.out
            obtain ⟨hcz61_0, hcz61_1, hcz61_2, hcz61_3⟩ := Mine.cells4 BK142.out
            have hfz61_0 := blk_frozen BK142.out
            go_wp2
            refine bodyPost_ret (results_ct rfl _ _ gb142 39 #[.int .i64 3, .int .i64 a1, .string (a0.extract (a1 : Int).toNat ((wrap64 (a1 + 1)) : Int).toNat), .int .u64 0] (0, 0) _ rfl (by (with_reducible repeat (first | refine blk_drewN ?_ _ | refine blk_drew ?_ | refine blk_alloc ?_ _)); refine blk_put (cs := #[.int .i64 3, .int .i64 a1, .string (a0.extract (a1 : Int).toNat ((wrap64 (a1 + 1)) : Int).toNat), .int .u64 0]) ?_ 3 _ rfl; (with_reducible repeat (first | refine blk_drewN ?_ _ | refine blk_drew ?_ | refine blk_alloc ?_ _)); refine blk_put (cs := #[.int .i64 3, .int .i64 a1, .string (⟨#[]⟩ : ByteArray), .int .u64 0]) ?_ 2 _ rfl; (with_reducible repeat (first | refine blk_drewN ?_ _ | refine blk_drew ?_ | refine blk_alloc ?_ _)); refine blk_put (cs := #[.int .i64 3, .int .i64 0, .string (⟨#[]⟩ : ByteArray), .int .u64 0]) ?_ 1 _ rfl; (with_reducible repeat (first | refine blk_drewN ?_ _ | refine blk_drew ?_ | refine blk_alloc ?_ _)); refine blk_put (cs := #[.int .i64 0, .int .i64 0, .string (⟨#[]⟩ : ByteArray), .int .u64 0]) ?_ 0 _ rfl; (with_reducible repeat (first | refine blk_drewN ?_ _ | refine blk_drew ?_ | refine blk_alloc ?_ _)); refine blk_far ?_ NB142_143.out _; (with_reducible repeat (first | refine blk_drewN ?_ _ | refine blk_drew ?_ | refine blk_alloc ?_ _)); exact BK142.out) Try.underlying39 rfl (by kernel_rfl)) rfl ?_
            exact ⟨by first | rfl | (simp [errW_none, errW_some] <;> rfl) | (simp [*, errW_none, errW_some] <;> rfl), by repeat (first | (with_reducible first | exact HB.out | apply below_alloc | apply pw_below_drewN | apply below_drew1 | refine below_set ?_ GE142.out | refine below_set ?_ GE143.out) | exact HB.out)⟩
           ·rw [if_neg c58] at H
            exact absurd H (by simp)
          ·rw [if_neg c57] at H
           exact absurd H (by simp)
         ·rw [if_neg c56] at H
          exact absurd H (by simp)
        ·rw [if_neg c55] at H
         have c55b0 : ((bt a0 a1) == 59) = false := beq_eq_false_iff_ne.mpr c55
         have c55b1 : ((bt a0 a1) != 59) = true := bne_iff_ne.mpr c55
         by_cases c62 : (bt a0 a1) = 44
         ·rw [if_pos c62] at H
          have c62b0 : ((bt a0 a1) == 44) = true := beq_iff_eq.mpr c62
          have c62b1 : ((bt a0 a1) != 44) = false := bne_eq_false_iff_eq.mpr c62
          clear c62
          by_cases c63 : 0 ≤ a1
          ·rw [if_pos c63] at H
           have c63b0 := eq_true c63
           have c63b1 : decide (0 ≤ a1) = true := decide_eq_true c63
           clear c63
           by_cases c64 : a1 ≤ (wrap64 (a1 + 1))
           ·rw [if_pos c64] at H
            have c64b0 := eq_true c64
            have c64b1 : decide (a1 ≤ (wrap64 (a1 + 1))) = true := decide_eq_true c64
            by_cases c65 : (wrap64 (a1 + 1)) ≤ (a0.size : Int)
            ·rw [if_pos c65] at H
             have c65b0 := eq_true c65
             have c65b1 : decide ((wrap64 (a1 + 1)) ≤ (a0.size : Int)) = true := decide_eq_true c65
             simp only [Option.some.injEq, Prod.mk.injEq] at H
             obtain ⟨rfl, rfl, rfl, rfl, rfl⟩ := H
             have hnb66 := NB143_142.out
             have hnc66 := NB142_143.out
             obtain ⟨hcz67_0, hcz67_1, hcz67_2, hcz67_3⟩ := Mine.cells4 BK143.out
             have hfz67_0 := blk_frozen BK143.out
             obtain ⟨hcz68_0, hcz68_1, hcz68_2, hcz68_3⟩ := Mine.cells4 BK142.out
             have hfz68_0 := blk_frozen BK142.out
             go_wp2
             refine bodyPost_ret (results_ct rfl _ _ gb142 39 #[.int .i64 3, .int .i64 a1, .string (a0.extract (a1 : Int).toNat ((wrap64 (a1 + 1)) : Int).toNat), .int .u64 0] (0, 0) _ rfl (by (with_reducible repeat (first | refine blk_drewN ?_ _ | refine blk_drew ?_ | refine blk_alloc ?_ _)); refine blk_put (cs := #[.int .i64 3, .int .i64 a1, .string (a0.extract (a1 : Int).toNat ((wrap64 (a1 + 1)) : Int).toNat), .int .u64 0]) ?_ 3 _ rfl; (with_reducible repeat (first | refine blk_drewN ?_ _ | refine blk_drew ?_ | refine blk_alloc ?_ _)); refine blk_put (cs := #[.int .i64 3, .int .i64 a1, .string (⟨#[]⟩ : ByteArray), .int .u64 0]) ?_ 2 _ rfl; (with_reducible repeat (first | refine blk_drewN ?_ _ | refine blk_drew ?_ | refine blk_alloc ?_ _)); refine blk_put (cs := #[.int .i64 3, .int .i64 0, .string (⟨#[]⟩ : ByteArray), .int .u64 0]) ?_ 1 _ rfl; (with_reducible repeat (first | refine blk_drewN ?_ _ | refine blk_drew ?_ | refine blk_alloc ?_ _)); refine blk_put (cs := #[.int .i64 0, .int .i64 0, .string (⟨#[]⟩ : ByteArray), .int .u64 0]) ?_ 0 _ rfl; (with_reducible repeat (first | refine blk_drewN ?_ _ | refine blk_drew ?_ | refine blk_alloc ?_ _)); refine blk_far ?_ NB142_143.out _; (with_reducible repeat (first | refine blk_drewN ?_ _ | refine blk_drew ?_ | refine blk_alloc ?_ _)); exact BK142.out) Try.underlying39 rfl (by kernel_rfl)) rfl ?_
             exact ⟨by first | rfl | (simp [errW_none, errW_some] <;> rfl) | (simp [*, errW_none, errW_some] <;> rfl), by repeat (first | (with_reducible first | exact HB.out | apply below_alloc | apply pw_below_drewN | apply below_drew1 | refine below_set ?_ GE142.out | refine below_set ?_ GE143.out) | exact HB.out)⟩
            ·rw [if_neg c65] at H
             exact absurd H (by simp)
           ·rw [if_neg c64] at H
            exact absurd H (by simp)
          ·rw [if_neg c63] at H
           exact absurd H (by simp)
         ·rw [if_neg c62] at H
          have c62b0 : ((bt a0 a1) == 44) = false := beq_eq_false_iff_ne.mpr c62
          have c62b1 : ((bt a0 a1) != 44) = true := bne_iff_ne.mpr c62
          by_cases c69 : (bt a0 a1) = 60
          ·rw [if_pos c69] at H
           have c69b0 : ((bt a0 a1) == 60) = true := beq_iff_eq.mpr c69
           have c69b1 : ((bt a0 a1) != 60) = false := bne_eq_false_iff_eq.mpr c69
           clear c69
           by_cases c70 : 0 ≤ a1
           ·rw [if_pos c70] at H
            have c70b0 := eq_true c70
            have c70b1 : decide (0 ≤ a1) = true := decide_eq_true c70
            clear c70
            by_cases c71 : a1 ≤ (wrap64 (a1 + 1))
            ·rw [if_pos c71] at H
             have c71b0 := eq_true c71
             have c71b1 : decide (a1 ≤ (wrap64 (a1 + 1))) = true := decide_eq_true c71
             by_cases c72 : (wrap64 (a1 + 1)) ≤ (a0.size : Int)
             ·rw [if_pos c72] at H
              have c72b0 := eq_true c72
              have c72b1 : decide ((wrap64 (a1 + 1)) ≤ (a0.size : Int)) = true := decide_eq_true c72
              simp only [Option.some.injEq, Prod.mk.injEq] at H
              obtain ⟨rfl, rfl, rfl, rfl, rfl⟩ := H
              have hnb73 := NB143_142.out
              have hnc73 := NB142_143.out
              obtain ⟨hcz74_0, hcz74_1, hcz74_2, hcz74_3⟩ := Mine.cells4 BK143.out
              have hfz74_0 := blk_frozen BK143.out
              obtain ⟨hcz75_0, hcz75_1, hcz75_2, hcz75_3⟩ := Mine.cells4 BK142.out
              have hfz75_0 := blk_frozen BK142.out
              go_wp2
              refine bodyPost_ret (results_ct rfl _ _ gb142 39 #[.int .i64 3, .int .i64 a1, .string (a0.extract (a1 : Int).toNat ((wrap64 (a1 + 1)) : Int).toNat), .int .u64 0] (0, 0) _ rfl (by (with_reducible repeat (first | refine blk_drewN ?_ _ | refine blk_drew ?_ | refine blk_alloc ?_ _)); refine blk_put (cs := #[.int .i64 3, .int .i64 a1, .string (a0.extract (a1 : Int).toNat ((wrap64 (a1 + 1)) : Int).toNat), .int .u64 0]) ?_ 3 _ rfl; (with_reducible repeat (first | refine blk_drewN ?_ _ | refine blk_drew ?_ | refine blk_alloc ?_ _)); refine blk_put (cs := #[.int .i64 3, .int .i64 a1, .string (⟨#[]⟩ : ByteArray), .int .u64 0]) ?_ 2 _ rfl; (with_reducible repeat (first | refine blk_drewN ?_ _ | refine blk_drew ?_ | refine blk_alloc ?_ _)); refine blk_put (cs := #[.int .i64 3, .int .i64 0, .string (⟨#[]⟩ : ByteArray), .int .u64 0]) ?_ 1 _ rfl; (with_reducible repeat (first | refine blk_drewN ?_ _ | refine blk_drew ?_ | refine blk_alloc ?_ _)); refine blk_put (cs := #[.int .i64 0, .int .i64 0, .string (⟨#[]⟩ : ByteArray), .int .u64 0]) ?_ 0 _ rfl; (with_reducible repeat (first | refine blk_drewN ?_ _ | refine blk_drew ?_ | refine blk_alloc ?_ _)); refine blk_far ?_ NB142_143.out _; (with_reducible repeat (first | refine blk_drewN ?_ _ | refine blk_drew ?_ | refine blk_alloc ?_ _)); exact BK142.out) Try.underlying39 rfl (by kernel_rfl)) rfl ?_
              exact ⟨by first | rfl | (simp [errW_none, errW_some] <;> rfl) | (simp [*, errW_none, errW_some] <;> rfl), by repeat (first | (with_reducible first | exact HB.out | apply below_alloc | apply pw_below_drewN | apply below_drew1 | refine below_set ?_ GE142.out | refine below_set ?_ GE143.out) | exact HB.out)⟩
             ·rw [if_neg c72] at H
              exact absurd H (by simp)
            ·rw [if_neg c71] at H
             exact absurd H (by simp)
           ·rw [if_neg c70] at H
            exact absurd H (by simp)
          ·rw [if_neg c69] at H
           have c69b0 : ((bt a0 a1) == 60) = false := beq_eq_false_iff_ne.mpr c69
           have c69b1 : ((bt a0 a1) != 60) = true := bne_iff_ne.mpr c69
           by_cases c76 : (bt a0 a1) = 62
           ·rw [if_pos c76] at H
            have c76b0 : ((bt a0 a1) == 62) = true := beq_iff_eq.mpr c76
            have c76b1 : ((bt a0 a1) != 62) = false := bne_eq_false_iff_eq.mpr c76
            clear c76
            by_cases c77 : 0 ≤ a1
            ·rw [if_pos c77] at H
             have c77b0 := eq_true c77
             have c77b1 : decide (0 ≤ a1) = true := decide_eq_true c77
             clear c77
             by_cases c78 : a1 ≤ (wrap64 (a1 + 1))
             ·rw [if_pos c78] at H
              have c78b0 := eq_true c78
              have c78b1 : decide (a1 ≤ (wrap64 (a1 + 1))) = true := decide_eq_true c78
              by_cases c79 : (wrap64 (a1 + 1)) ≤ (a0.size : Int)
              ·rw [if_pos c79] at H
               have c79b0 := eq_true c79
               have c79b1 : decide ((wrap64 (a1 + 1)) ≤ (a0.size : Int)) = true := decide_eq_true c79
               simp only [Option.some.injEq, Prod.mk.injEq] at H
               obtain ⟨rfl, rfl, rfl, rfl, rfl⟩ := H
               have hnb80 := NB143_142.out
               have hnc80 := NB142_143.out
               obtain ⟨hcz81_0, hcz81_1, hcz81_2, hcz81_3⟩ := Mine.cells4 BK143.out
               have hfz81_0 := blk_frozen BK143.out
               obtain ⟨hcz82_0, hcz82_1, hcz82_2, hcz82_3⟩ := Mine.cells4 BK142.out
               have hfz82_0 := blk_frozen BK142.out
               go_wp2
               refine bodyPost_ret (results_ct rfl _ _ gb142 39 #[.int .i64 3, .int .i64 a1, .string (a0.extract (a1 : Int).toNat ((wrap64 (a1 + 1)) : Int).toNat), .int .u64 0] (0, 0) _ rfl (by (with_reducible repeat (first | refine blk_drewN ?_ _ | refine blk_drew ?_ | refine blk_alloc ?_ _)); refine blk_put (cs := #[.int .i64 3, .int .i64 a1, .string (a0.extract (a1 : Int).toNat ((wrap64 (a1 + 1)) : Int).toNat), .int .u64 0]) ?_ 3 _ rfl; (with_reducible repeat (first | refine blk_drewN ?_ _ | refine blk_drew ?_ | refine blk_alloc ?_ _)); refine blk_put (cs := #[.int .i64 3, .int .i64 a1, .string (⟨#[]⟩ : ByteArray), .int .u64 0]) ?_ 2 _ rfl; (with_reducible repeat (first | refine blk_drewN ?_ _ | refine blk_drew ?_ | refine blk_alloc ?_ _)); refine blk_put (cs := #[.int .i64 3, .int .i64 0, .string (⟨#[]⟩ : ByteArray), .int .u64 0]) ?_ 1 _ rfl; (with_reducible repeat (first | refine blk_drewN ?_ _ | refine blk_drew ?_ | refine blk_alloc ?_ _)); refine blk_put (cs := #[.int .i64 0, .int .i64 0, .string (⟨#[]⟩ : ByteArray), .int .u64 0]) ?_ 0 _ rfl; (with_reducible repeat (first | refine blk_drewN ?_ _ | refine blk_drew ?_ | refine blk_alloc ?_ _)); refine blk_far ?_ NB142_143.out _; (with_reducible repeat (first | refine blk_drewN ?_ _ | refine blk_drew ?_ | refine blk_alloc ?_ _)); exact BK142.out) Try.underlying39 rfl (by kernel_rfl)) rfl ?_
               exact ⟨by first | rfl | (simp [errW_none, errW_some] <;> rfl) | (simp [*, errW_none, errW_some] <;> rfl), by repeat (first | (with_reducible first | exact HB.out | apply below_alloc | apply pw_below_drewN | apply below_drew1 | refine below_set ?_ GE142.out | refine below_set ?_ GE143.out) | exact HB.out)⟩
              ·rw [if_neg c79] at H
               exact absurd H (by simp)
             ·rw [if_neg c78] at H
              exact absurd H (by simp)
            ·rw [if_neg c77] at H
             exact absurd H (by simp)
           ·rw [if_neg c76] at H
            have c76b0 : ((bt a0 a1) == 62) = false := beq_eq_false_iff_ne.mpr c76
            have c76b1 : ((bt a0 a1) != 62) = true := bne_iff_ne.mpr c76
            by_cases c83 : (bt a0 a1) = 38
            ·rw [if_pos c83] at H
             have c83b0 : ((bt a0 a1) == 38) = true := beq_iff_eq.mpr c83
             have c83b1 : ((bt a0 a1) != 38) = false := bne_eq_false_iff_eq.mpr c83
             clear c83
             by_cases c84 : 0 ≤ a1
             ·rw [if_pos c84] at H
              have c84b0 := eq_true c84
              have c84b1 : decide (0 ≤ a1) = true := decide_eq_true c84
              clear c84
              by_cases c85 : a1 ≤ (wrap64 (a1 + 1))
              ·rw [if_pos c85] at H
               have c85b0 := eq_true c85
               have c85b1 : decide (a1 ≤ (wrap64 (a1 + 1))) = true := decide_eq_true c85
               by_cases c86 : (wrap64 (a1 + 1)) ≤ (a0.size : Int)
               ·rw [if_pos c86] at H
                have c86b0 := eq_true c86
                have c86b1 : decide ((wrap64 (a1 + 1)) ≤ (a0.size : Int)) = true := decide_eq_true c86
                simp only [Option.some.injEq, Prod.mk.injEq] at H
                obtain ⟨rfl, rfl, rfl, rfl, rfl⟩ := H
                have hnb87 := NB143_142.out
                have hnc87 := NB142_143.out
                obtain ⟨hcz88_0, hcz88_1, hcz88_2, hcz88_3⟩ := Mine.cells4 BK143.out
                have hfz88_0 := blk_frozen BK143.out
                obtain ⟨hcz89_0, hcz89_1, hcz89_2, hcz89_3⟩ := Mine.cells4 BK142.out
                have hfz89_0 := blk_frozen BK142.out
                go_wp2
                refine bodyPost_ret (results_ct rfl _ _ gb142 39 #[.int .i64 3, .int .i64 a1, .string (a0.extract (a1 : Int).toNat ((wrap64 (a1 + 1)) : Int).toNat), .int .u64 0] (0, 0) _ rfl (by (with_reducible repeat (first | refine blk_drewN ?_ _ | refine blk_drew ?_ | refine blk_alloc ?_ _)); refine blk_put (cs := #[.int .i64 3, .int .i64 a1, .string (a0.extract (a1 : Int).toNat ((wrap64 (a1 + 1)) : Int).toNat), .int .u64 0]) ?_ 3 _ rfl; (with_reducible repeat (first | refine blk_drewN ?_ _ | refine blk_drew ?_ | refine blk_alloc ?_ _)); refine blk_put (cs := #[.int .i64 3, .int .i64 a1, .string (⟨#[]⟩ : ByteArray), .int .u64 0]) ?_ 2 _ rfl; (with_reducible repeat (first | refine blk_drewN ?_ _ | refine blk_drew ?_ | refine blk_alloc ?_ _)); refine blk_put (cs := #[.int .i64 3, .int .i64 0, .string (⟨#[]⟩ : ByteArray), .int .u64 0]) ?_ 1 _ rfl; (with_reducible repeat (first | refine blk_drewN ?_ _ | refine blk_drew ?_ | refine blk_alloc ?_ _)); refine blk_put (cs := #[.int .i64 0, .int .i64 0, .string (⟨#[]⟩ : ByteArray), .int .u64 0]) ?_ 0 _ rfl; (with_reducible repeat (first | refine blk_drewN ?_ _ | refine blk_drew ?_ | refine blk_alloc ?_ _)); refine blk_far ?_ NB142_143.out _; (with_reducible repeat (first | refine blk_drewN ?_ _ | refine blk_drew ?_ | refine blk_alloc ?_ _)); exact BK142.out) Try.underlying39 rfl (by kernel_rfl)) rfl ?_
                exact ⟨by first | rfl | (simp [errW_none, errW_some] <;> rfl) | (simp [*, errW_none, errW_some] <;> rfl), by repeat (first | (with_reducible first | exact HB.out | apply below_alloc | apply pw_below_drewN | apply below_drew1 | refine below_set ?_ GE142.out | refine below_set ?_ GE143.out) | exact HB.out)⟩
               ·rw [if_neg c86] at H
                exact absurd H (by simp)
              ·rw [if_neg c85] at H
               exact absurd H (by simp)
             ·rw [if_neg c84] at H
              exact absurd H (by simp)
            ·rw [if_neg c83] at H
             have c83b0 : ((bt a0 a1) == 38) = false := beq_eq_false_iff_ne.mpr c83
             have c83b1 : ((bt a0 a1) != 38) = true := bne_iff_ne.mpr c83
             simp only [Option.some.injEq, Prod.mk.injEq] at H
             obtain ⟨rfl, rfl, rfl, rfl, rfl⟩ := H
             have hnb90 := NB142_143.out
             have hnc90 := NB143_142.out
             obtain ⟨hcz91_0, hcz91_1, hcz91_2, hcz91_3⟩ := Mine.cells4 BK142.out
             have hfz91_0 := blk_frozen BK142.out
             go_wp2
             refine bodyPost_ret (results_ct rfl _ _ gb142 39 #[.int .i64 0, .int .i64 0, .string (⟨#[]⟩ : ByteArray), .int .u64 0] (0, 0) _ rfl (by (with_reducible repeat (first | refine blk_drewN ?_ _ | refine blk_drew ?_ | refine blk_alloc ?_ _)); refine blk_put (cs := #[.int .i64 0, .int .i64 0, .string (⟨#[]⟩ : ByteArray), .int .u64 0]) ?_ 3 _ rfl; (with_reducible repeat (first | refine blk_drewN ?_ _ | refine blk_drew ?_ | refine blk_alloc ?_ _)); refine blk_put (cs := #[.int .i64 0, .int .i64 0, .string (⟨#[]⟩ : ByteArray), .int .u64 0]) ?_ 2 _ rfl; (with_reducible repeat (first | refine blk_drewN ?_ _ | refine blk_drew ?_ | refine blk_alloc ?_ _)); refine blk_put (cs := #[.int .i64 0, .int .i64 0, .string (⟨#[]⟩ : ByteArray), .int .u64 0]) ?_ 1 _ rfl; (with_reducible repeat (first | refine blk_drewN ?_ _ | refine blk_drew ?_ | refine blk_alloc ?_ _)); refine blk_put (cs := #[.int .i64 0, .int .i64 0, .string (⟨#[]⟩ : ByteArray), .int .u64 0]) ?_ 0 _ rfl; (with_reducible repeat (first | refine blk_drewN ?_ _ | refine blk_drew ?_ | refine blk_alloc ?_ _)); exact BK142.out) Try.underlying39 rfl (by kernel_rfl)) rfl ?_
             exact ⟨by first | rfl | (simp [errW_none, errW_some] <;> rfl) | (simp [*, errW_none, errW_some] <;> rfl), by repeat (first | (with_reducible first | exact HB.out | apply below_alloc | apply pw_below_drewN | apply below_drew1 | refine below_set ?_ GE142.out | refine below_set ?_ GE143.out) | exact HB.out)⟩
  ·rw [if_neg c4] at H
   exact absurd H (by simp)
 ·rw [if_neg c3] at H
  exact absurd H (by simp)
end Go.Proofs.Ytfahchgglapglaa.M
