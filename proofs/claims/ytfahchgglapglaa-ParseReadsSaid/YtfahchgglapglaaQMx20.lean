-- Laid by a program (wip/tools/myprint.py) out of the loaded program's own print: for each Go function a Lean function and the proof of its contract.
import Derived.Test.YtfahchgglapglaaQMx0
import Derived.Test.YtfahchgglapglaaQMx1
import Derived.Test.YtfahchgglapglaaQMx2
namespace Go.Proofs.Ytfahchgglapglaa.M
open Go.RowKit Go.Proofs.YtfahchgglapglaaW.PrintWords Go.Proofs.YtfahchgglapglaaW.PrintLast Go.Proofs.YtfahchgglapglaaW.PrintMore
attribute [local go_sem] max2_int min2_int max_two min_two max_three min_three max_four min_four   -- for this text's walks alone
set_option linter.unusedVariables false
set_option linter.unusedSimpArgs false
attribute [local go_sem high] eqA24 eqA46
mutual
def fairleadref10_SameRule.j0 : Nat → Bool → Int → Int → List ByteArray → List (S46) → Int → Int → List ByteArray → List (S46) → Option (Bool)
 | 0, _, _, _, _, _, _, _, _, _ => none
 | k + 1, x29, Z0, Z1, Z2, Z3, Z4, Z5, Z6, Z7 => if x29 = true then (some false) else (fairleadref10_SameRule.l0 k 0 Z0 Z1 Z2 Z3 Z4 Z5 Z6 Z7)
def fairleadref10_SameRule.l0 : Nat → Int → Int → Int → List ByteArray → List (S46) → Int → Int → List ByteArray → List (S46) → Option (Bool)
 | 0, _, _, _, _, _, _, _, _, _ => none
 | k + 1, x5, Z0, Z1, Z2, Z3, Z4, Z5, Z6, Z7 => if x5 < (Z2.length : Int) then (if 0 ≤ x5 then (if x5 < (Z6.length : Int) then (if (rdOf ByteArray.empty Z2 x5).toList = (rdOf ByteArray.empty Z6 x5).toList then (fairleadref10_SameRule.l0 k (wrap64 (x5 + 1)) Z0 Z1 Z2 Z3 Z4 Z5 Z6 Z7) else (some false)) else (none)) else (none)) else (fairleadref10_SameRule.l1 k 0 Z0 Z1 Z2 Z3 Z4 Z5 Z6 Z7)
def fairleadref10_SameRule.l1 : Nat → Int → Int → Int → List ByteArray → List (S46) → Int → Int → List ByteArray → List (S46) → Option (Bool)
 | 0, _, _, _, _, _, _, _, _, _ => none
 | k + 1, x6, Z0, Z1, Z2, Z3, Z4, Z5, Z6, Z7 => if x6 < (Z3.length : Int) then (if 0 ≤ x6 then (if x6 < (Z7.length : Int) then (if (!(((rd_T46 Z3 x6).f0) == ((rd_T46 Z7 x6).f0)) || (!(((rd_T46 Z3 x6).f1) == ((rd_T46 Z7 x6).f1)) || (!(((rd_T46 Z3 x6).f2) == ((rd_T46 Z7 x6).f2)) || (!(((rd_T46 Z3 x6).f3) == ((rd_T46 Z7 x6).f3)))))) = true then (some false) else (fairleadref10_SameRule.l1 k (wrap64 (x6 + 1)) Z0 Z1 Z2 Z3 Z4 Z5 Z6 Z7)) else (none)) else (none)) else (some true)
end
def fairleadref10_SameRule.f (k : Nat) (a0_0 : Int) (a0_1 : Int) (l0_2 : List ByteArray) (l0_3 : List (S46)) (a1_0 : Int) (a1_1 : Int) (l1_2 : List ByteArray) (l1_3 : List (S46)) : Option (Bool) := if (!(a0_0 == a1_0) || (!(a0_1 == a1_1))) = true then (fairleadref10_SameRule.j0 k true a0_0 a0_1 l0_2 l0_3 a1_0 a1_1 l1_2 l1_3) else (if (l0_2.length : Int) = (l1_2.length : Int) then (fairleadref10_SameRule.j0 k ((l0_3.length : Int) != (l1_3.length : Int)) a0_0 a0_1 l0_2 l0_3 a1_0 a1_1 l1_2 l1_3) else (fairleadref10_SameRule.j0 k true a0_0 a0_1 l0_2 l0_3 a1_0 a1_1 l1_2 l1_3))
set_option maxHeartbeats 8000000 in
set_option maxRecDepth 100000 in
theorem fairleadref10_SameRule.calls (k : Nat) (a0_0 : Int) (a0_1 : Int) (A0_2 : Option Addr) (c0_2 : Nat) (l0_2 : List ByteArray) (A0_3 : Option Addr) (c0_3 : Nat) (l0_3 : List (S46)) (a1_0 : Int) (a1_1 : Int) (A1_2 : Option Addr) (c1_2 : Nat) (l1_2 : List ByteArray) (A1_3 : Option Addr) (c1_3 : Nat) (l1_3 : List (S46)) (r : Bool) (w : World) (hr0_2 : Kd.C Kd.string w A0_2 l0_2.length l0_2) (hc0_2 : l0_2.length ≤ c0_2) (hr0_3 : Kd.C k46 w A0_3 l0_3.length l0_3) (hc0_3 : l0_3.length ≤ c0_3) (hr1_2 : Kd.C Kd.string w A1_2 l1_2.length l1_2) (hc1_2 : l1_2.length ≤ c1_2) (hr1_3 : Kd.C k46 w A1_3 l1_3.length l1_3) (hc1_3 : l1_3.length ≤ c1_3) (h : fairleadref10_SameRule.f k a0_0 a0_1 l0_2 l0_3 a1_0 a1_1 l1_2 l1_3 = some r) :
  Calls Try.prog 27 #[.agg #[.int .i64 a0_0, .int .i64 a0_1, .slice A0_2 l0_2.length c0_2, .slice A0_3 l0_3.length c0_3], .agg #[.int .i64 a1_0, .int .i64 a1_1, .slice A1_2 l1_2.length c1_2, .slice A1_3 l1_3.length c1_3]] w fun e w' => e = .returned (.bool r) ∧ Below w.heap.size w w' := by
 have hu44 := Try.underlying44
 have hu24 := Try.underlying24
 have hu46 := Try.underlying46
 have HR0_2 := Aside0.mk hr0_2
 have HC0_2 := Aside0.mk hc0_2
 clear hr0_2 hc0_2
 have HR0_3 := Aside0.mk hr0_3
 have HC0_3 := Aside0.mk hc0_3
 clear hr0_3 hc0_3
 have HR1_2 := Aside0.mk hr1_2
 have HC1_2 := Aside0.mk hc1_2
 clear hr1_2 hc1_2
 have HR1_3 := Aside0.mk hr1_3
 have HC1_3 := Aside0.mk hc1_3
 clear hr1_3 hc1_3
 have HB := Aside0.mk (Below.refl w.heap.size w)
 have H : (if (!(a0_0 == a1_0) || (!(a0_1 == a1_1))) = true then (fairleadref10_SameRule.j0 k true a0_0 a0_1 l0_2 l0_3 a1_0 a1_1 l1_2 l1_3) else (if (l0_2.length : Int) = (l1_2.length : Int) then (fairleadref10_SameRule.j0 k ((l0_3.length : Int) != (l1_3.length : Int)) a0_0 a0_1 l0_2 l0_3 a1_0 a1_1 l1_2 l1_3) else (fairleadref10_SameRule.j0 k true a0_0 a0_1 l0_2 l0_3 a1_0 a1_1 l1_2 l1_3))) = some r := h
 clear h
 have HC3 := Aside0.mk H
 clear H
 go_enter Try.func27, Try.ntmps27
 go_upto_region 1 with (first | ((with_reducible refine gate_dst (N := 2) rfl ?_); (try (refine gate_guard (by rfl) ?_; dsimp only)); refine box_event ?hg (N := 2) ?hd (cs := #[.int .i64 a0_0, .int .i64 a0_1, .slice A0_2 l0_2.length c0_2, .slice A0_3 l0_3.length c0_3]) (t := 44) ?hr ?_; (case hd => rfl); (case hg => rfl); (case hr => first | (go_simp; done) | (go_simp; rfl)); intro gb188 hg w4 hbox hb; have n0_ := Aside0.mk (below_step (by repeat (first | (with_reducible first | exact HB.out | apply below_alloc | apply pw_below_drewN | apply below_drew1) | exact HB.out)) hb); have n1_ := Aside0.mk (hbox); have n2_ := Aside0.mk ((by rw [hg]; exact (below_size (by repeat (first | (with_reducible first | exact HB.out | apply below_alloc | apply pw_below_drewN | apply below_drew1) | exact HB.out))) : w.heap.size ≤ gb188)); have n3_ := Aside0.mk ((by rw [hg]; exact (below_size (by repeat (first | (with_reducible first | exact HB.out | apply below_alloc | apply pw_below_drewN | apply below_drew1) | exact HB.out))) : w.heap.size ≤ gb188)); clear HB; have HB := n0_; have BK188 := n1_; have GW188 := n2_; have GE188 := n3_; clear n0_ n1_ n2_ n3_; clear hb hbox hg) | ((with_reducible refine gate_dst (N := 3) rfl ?_); (try (refine gate_guard (by rfl) ?_; dsimp only)); refine box_event ?hg (N := 3) ?hd (cs := #[.int .i64 a1_0, .int .i64 a1_1, .slice A1_2 l1_2.length c1_2, .slice A1_3 l1_3.length c1_3]) (t := 44) ?hr ?_; (case hd => rfl); (case hg => rfl); (case hr => first | (go_simp; done) | (go_simp; rfl)); intro gb189 hg w5 hbox hb; have n0_ := Aside0.mk (blk_below (g := gb188) (o := .cells #[.int .i64 a0_0, .int .i64 a0_1, .slice A0_2 l0_2.length c0_2, .slice A0_3 l0_3.length c0_3] 44 (0, 0)) (by (with_reducible repeat (first | refine blk_drewN ?_ _ | refine blk_drew ?_ | refine blk_alloc ?_ _)); exact BK188.out) hb); have n1_ := Aside0.mk (below_step (by repeat (first | (with_reducible first | exact HB.out | apply below_alloc | apply pw_below_drewN | apply below_drew1 | refine below_set ?_ GE188.out) | exact HB.out)) hb); have n2_ := Aside0.mk (hbox); have n3_ := Aside0.mk ((by rw [hg]; exact (below_size (by repeat (first | (with_reducible first | exact HB.out | apply below_alloc | apply pw_below_drewN | apply below_drew1 | refine below_set ?_ GE188.out) | exact HB.out))) : w.heap.size ≤ gb189)); have n4_ := Aside0.mk ((by rw [hg]; exact (below_size (by repeat (first | (with_reducible first | exact HB.out | apply below_alloc | apply pw_below_drewN | apply below_drew1 | refine below_set ?_ GE188.out) | exact HB.out))) : w.heap.size ≤ gb189)); have n5_ := Aside0.mk ((by rw [hg]; exact Nat.ne_of_lt (blk_lt (g := gb188) (o := .cells #[.int .i64 a0_0, .int .i64 a0_1, .slice A0_2 l0_2.length c0_2, .slice A0_3 l0_3.length c0_3] 44 (0, 0)) (by (with_reducible repeat (first | refine blk_drewN ?_ _ | refine blk_drew ?_ | refine blk_alloc ?_ _)); exact BK188.out)) : gb188 ≠ gb189)); have n6_ := Aside0.mk ((by rw [hg]; exact Nat.ne_of_gt (blk_lt (g := gb188) (o := .cells #[.int .i64 a0_0, .int .i64 a0_1, .slice A0_2 l0_2.length c0_2, .slice A0_3 l0_3.length c0_3] 44 (0, 0)) (by (with_reducible repeat (first | refine blk_drewN ?_ _ | refine blk_drew ?_ | refine blk_alloc ?_ _)); exact BK188.out)) : gb189 ≠ gb188)); clear BK188; clear HB; have BK188 := n0_; have HB := n1_; have BK189 := n2_; have GW189 := n3_; have GE189 := n4_; have NB188_189 := n5_; have NB189_188 := n6_; clear n0_ n1_ n2_ n3_ n4_ n5_ n6_; clear hb hbox hg))
 repeat (go_quiet (first | ((with_reducible refine gate_dst (N := 2) rfl ?_); (try (refine gate_guard (by rfl) ?_; dsimp only)); refine box_event ?hg (N := 2) ?hd (cs := #[.int .i64 a0_0, .int .i64 a0_1, .slice A0_2 l0_2.length c0_2, .slice A0_3 l0_3.length c0_3]) (t := 44) ?hr ?_; (case hd => rfl); (case hg => rfl); (case hr => first | (go_simp; done) | (go_simp; rfl)); intro gb188 hg w4 hbox hb; have n0_ := Aside0.mk (below_step (by repeat (first | (with_reducible first | exact HB.out | apply below_alloc | apply pw_below_drewN | apply below_drew1) | exact HB.out)) hb); have n1_ := Aside0.mk (hbox); have n2_ := Aside0.mk ((by rw [hg]; exact (below_size (by repeat (first | (with_reducible first | exact HB.out | apply below_alloc | apply pw_below_drewN | apply below_drew1) | exact HB.out))) : w.heap.size ≤ gb188)); have n3_ := Aside0.mk ((by rw [hg]; exact (below_size (by repeat (first | (with_reducible first | exact HB.out | apply below_alloc | apply pw_below_drewN | apply below_drew1) | exact HB.out))) : w.heap.size ≤ gb188)); clear HB; have HB := n0_; have BK188 := n1_; have GW188 := n2_; have GE188 := n3_; clear n0_ n1_ n2_ n3_; clear hb hbox hg) | ((with_reducible refine gate_dst (N := 3) rfl ?_); (try (refine gate_guard (by rfl) ?_; dsimp only)); refine box_event ?hg (N := 3) ?hd (cs := #[.int .i64 a1_0, .int .i64 a1_1, .slice A1_2 l1_2.length c1_2, .slice A1_3 l1_3.length c1_3]) (t := 44) ?hr ?_; (case hd => rfl); (case hg => rfl); (case hr => first | (go_simp; done) | (go_simp; rfl)); intro gb189 hg w5 hbox hb; have n0_ := Aside0.mk (blk_below (g := gb188) (o := .cells #[.int .i64 a0_0, .int .i64 a0_1, .slice A0_2 l0_2.length c0_2, .slice A0_3 l0_3.length c0_3] 44 (0, 0)) (by (with_reducible repeat (first | refine blk_drewN ?_ _ | refine blk_drew ?_ | refine blk_alloc ?_ _)); exact BK188.out) hb); have n1_ := Aside0.mk (below_step (by repeat (first | (with_reducible first | exact HB.out | apply below_alloc | apply pw_below_drewN | apply below_drew1 | refine below_set ?_ GE188.out) | exact HB.out)) hb); have n2_ := Aside0.mk (hbox); have n3_ := Aside0.mk ((by rw [hg]; exact (below_size (by repeat (first | (with_reducible first | exact HB.out | apply below_alloc | apply pw_below_drewN | apply below_drew1 | refine below_set ?_ GE188.out) | exact HB.out))) : w.heap.size ≤ gb189)); have n4_ := Aside0.mk ((by rw [hg]; exact (below_size (by repeat (first | (with_reducible first | exact HB.out | apply below_alloc | apply pw_below_drewN | apply below_drew1 | refine below_set ?_ GE188.out) | exact HB.out))) : w.heap.size ≤ gb189)); have n5_ := Aside0.mk ((by rw [hg]; exact Nat.ne_of_lt (blk_lt (g := gb188) (o := .cells #[.int .i64 a0_0, .int .i64 a0_1, .slice A0_2 l0_2.length c0_2, .slice A0_3 l0_3.length c0_3] 44 (0, 0)) (by (with_reducible repeat (first | refine blk_drewN ?_ _ | refine blk_drew ?_ | refine blk_alloc ?_ _)); exact BK188.out)) : gb188 ≠ gb189)); have n6_ := Aside0.mk ((by rw [hg]; exact Nat.ne_of_gt (blk_lt (g := gb188) (o := .cells #[.int .i64 a0_0, .int .i64 a0_1, .slice A0_2 l0_2.length c0_2, .slice A0_3 l0_3.length c0_3] 44 (0, 0)) (by (with_reducible repeat (first | refine blk_drewN ?_ _ | refine blk_drew ?_ | refine blk_alloc ?_ _)); exact BK188.out)) : gb189 ≠ gb188)); clear BK188; clear HB; have BK188 := n0_; have HB := n1_; have BK189 := n2_; have GW189 := n3_; have GE189 := n4_; have NB188_189 := n5_; have NB189_188 := n6_; clear n0_ n1_ n2_ n3_ n4_ n5_ n6_; clear hb hbox hg)); go_upto_region 1 with (first | ((with_reducible refine gate_dst (N := 2) rfl ?_); (try (refine gate_guard (by rfl) ?_; dsimp only)); refine box_event ?hg (N := 2) ?hd (cs := #[.int .i64 a0_0, .int .i64 a0_1, .slice A0_2 l0_2.length c0_2, .slice A0_3 l0_3.length c0_3]) (t := 44) ?hr ?_; (case hd => rfl); (case hg => rfl); (case hr => first | (go_simp; done) | (go_simp; rfl)); intro gb188 hg w4 hbox hb; have n0_ := Aside0.mk (below_step (by repeat (first | (with_reducible first | exact HB.out | apply below_alloc | apply pw_below_drewN | apply below_drew1) | exact HB.out)) hb); have n1_ := Aside0.mk (hbox); have n2_ := Aside0.mk ((by rw [hg]; exact (below_size (by repeat (first | (with_reducible first | exact HB.out | apply below_alloc | apply pw_below_drewN | apply below_drew1) | exact HB.out))) : w.heap.size ≤ gb188)); have n3_ := Aside0.mk ((by rw [hg]; exact (below_size (by repeat (first | (with_reducible first | exact HB.out | apply below_alloc | apply pw_below_drewN | apply below_drew1) | exact HB.out))) : w.heap.size ≤ gb188)); clear HB; have HB := n0_; have BK188 := n1_; have GW188 := n2_; have GE188 := n3_; clear n0_ n1_ n2_ n3_; clear hb hbox hg) | ((with_reducible refine gate_dst (N := 3) rfl ?_); (try (refine gate_guard (by rfl) ?_; dsimp only)); refine box_event ?hg (N := 3) ?hd (cs := #[.int .i64 a1_0, .int .i64 a1_1, .slice A1_2 l1_2.length c1_2, .slice A1_3 l1_3.length c1_3]) (t := 44) ?hr ?_; (case hd => rfl); (case hg => rfl); (case hr => first | (go_simp; done) | (go_simp; rfl)); intro gb189 hg w5 hbox hb; have n0_ := Aside0.mk (blk_below (g := gb188) (o := .cells #[.int .i64 a0_0, .int .i64 a0_1, .slice A0_2 l0_2.length c0_2, .slice A0_3 l0_3.length c0_3] 44 (0, 0)) (by (with_reducible repeat (first | refine blk_drewN ?_ _ | refine blk_drew ?_ | refine blk_alloc ?_ _)); exact BK188.out) hb); have n1_ := Aside0.mk (below_step (by repeat (first | (with_reducible first | exact HB.out | apply below_alloc | apply pw_below_drewN | apply below_drew1 | refine below_set ?_ GE188.out) | exact HB.out)) hb); have n2_ := Aside0.mk (hbox); have n3_ := Aside0.mk ((by rw [hg]; exact (below_size (by repeat (first | (with_reducible first | exact HB.out | apply below_alloc | apply pw_below_drewN | apply below_drew1 | refine below_set ?_ GE188.out) | exact HB.out))) : w.heap.size ≤ gb189)); have n4_ := Aside0.mk ((by rw [hg]; exact (below_size (by repeat (first | (with_reducible first | exact HB.out | apply below_alloc | apply pw_below_drewN | apply below_drew1 | refine below_set ?_ GE188.out) | exact HB.out))) : w.heap.size ≤ gb189)); have n5_ := Aside0.mk ((by rw [hg]; exact Nat.ne_of_lt (blk_lt (g := gb188) (o := .cells #[.int .i64 a0_0, .int .i64 a0_1, .slice A0_2 l0_2.length c0_2, .slice A0_3 l0_3.length c0_3] 44 (0, 0)) (by (with_reducible repeat (first | refine blk_drewN ?_ _ | refine blk_drew ?_ | refine blk_alloc ?_ _)); exact BK188.out)) : gb188 ≠ gb189)); have n6_ := Aside0.mk ((by rw [hg]; exact Nat.ne_of_gt (blk_lt (g := gb188) (o := .cells #[.int .i64 a0_0, .int .i64 a0_1, .slice A0_2 l0_2.length c0_2, .slice A0_3 l0_3.length c0_3] 44 (0, 0)) (by (with_reducible repeat (first | refine blk_drewN ?_ _ | refine blk_drew ?_ | refine blk_alloc ?_ _)); exact BK188.out)) : gb189 ≠ gb188)); clear BK188; clear HB; have BK188 := n0_; have HB := n1_; have BK189 := n2_; have GW189 := n3_; have GE189 := n4_; have NB188_189 := n5_; have NB189_188 := n6_; clear n0_ n1_ n2_ n3_ n4_ n5_ n6_; clear hb hbox hg)))
 (try simp only [Act.put, List.setIfInBounds_toArray, List.set_cons_zero, List.set_cons_succ])
 go_cut [29] (fun v29 wc => ∃ (kq : Nat) (x29_2 : Bool), v29 = .bool x29_2 ∧ Aside0 (fairleadref10_SameRule.j0 kq x29_2 a0_0 a0_1 l0_2 l0_3 a1_0 a1_1 l1_2 l1_3 = some r) ∧ Aside0 (kq ≤ k) ∧ Aside0 (wc.heap[gb188]? = some (.cells #[.int .i64 a0_0, .int .i64 a0_1, (.slice A0_2 l0_2.length c0_2), (.slice A0_3 l0_3.length c0_3)] 44 (0, 0))) ∧ Aside0 (wc.heap[gb189]? = some (.cells #[.int .i64 a1_0, .int .i64 a1_1, (.slice A1_2 l1_2.length c1_2), (.slice A1_3 l1_3.length c1_3)] 44 (0, 0))) ∧ Aside0 (Below w.heap.size w wc))
 case first =>
  have H := HC3.out
  clear HC3
  by_cases c6 : (!(a0_0 == a1_0) || (!(a0_1 == a1_1))) = true
  ·rw [if_pos c6] at H
   have c6b0 : (!(a0_0 == a1_0) || (!(a0_1 == a1_1))) = true := c6
   clear c6
   (first | rw [c6b0] | (simp only [i64_w, i32_w]; rw [c6b0]) | skip)
   have H' := Aside0.mk H
   clear H
   have hnb7 := NB188_189.out
   have hnc7 := NB189_188.out
   obtain ⟨hcz8_0, hcz8_1, hcz8_2, hcz8_3⟩ := Mine.cells4 BK188.out
   have hfz8_0 := blk_frozen BK188.out
   obtain ⟨hcz9_0, hcz9_1, hcz9_2, hcz9_3⟩ := Mine.cells4 BK189.out
   have hfz9_0 := blk_frozen BK189.out
   go_wp2
   repeat (go_quiet (fail); try go_wp2)
   go_meet
   case rel => exact ⟨_, (true), (by first | rfl | (simp; done) | (simp [*]; done)), H', ⟨by first | omega | exact Nat.le_refl _⟩, ⟨by (with_reducible repeat (first | refine blk_drewN ?_ _ | refine blk_drew ?_ | refine blk_alloc ?_ _)); exact BK188.out⟩, ⟨by (with_reducible repeat (first | refine blk_drewN ?_ _ | refine blk_drew ?_ | refine blk_alloc ?_ _)); exact BK189.out⟩, ⟨by repeat (first | (with_reducible first | exact HB.out | apply below_alloc | apply pw_below_drewN | apply below_drew1 | refine below_set ?_ GE188.out | refine below_set ?_ GE189.out) | exact HB.out)⟩⟩
  ·rw [if_neg c6] at H
   have c6b0 : (!(a0_0 == a1_0) || (!(a0_1 == a1_1))) = false := by simpa using c6
   clear c6
   (first | rw [c6b0] | (simp only [i64_w, i32_w]; rw [c6b0]) | skip)
   by_cases c10 : (l0_2.length : Int) = (l1_2.length : Int)
   ·rw [if_pos c10] at H
    have c10b0 : ((l0_2.length : Int) == (l1_2.length : Int)) = true := beq_iff_eq.mpr c10
    have c10b1 : ((l0_2.length : Int) != (l1_2.length : Int)) = false := bne_eq_false_iff_eq.mpr c10
    have c10b2 : (l0_2.length == l1_2.length) = true := by first | simpa using c10 | (simp at c10 ⊢; omega)
    clear c10
    have H' := Aside0.mk H
    clear H
    have hnb11 := NB188_189.out
    have hnc11 := NB189_188.out
    obtain ⟨hcz12_0, hcz12_1, hcz12_2, hcz12_3⟩ := Mine.cells4 BK188.out
    have hfz12_0 := blk_frozen BK188.out
    obtain ⟨hcz13_0, hcz13_1, hcz13_2, hcz13_3⟩ := Mine.cells4 BK189.out
    have hfz13_0 := blk_frozen BK189.out
    go_wp2
    repeat (go_quiet (fail); try go_wp2)
    go_meet
    case rel => exact ⟨_, (((l0_3.length : Int) != (l1_3.length : Int))), (by first | rfl | (simp; done) | (simp [*]; done)), H', ⟨by first | omega | exact Nat.le_refl _⟩, ⟨by (with_reducible repeat (first | refine blk_drewN ?_ _ | refine blk_drew ?_ | refine blk_alloc ?_ _)); exact BK188.out⟩, ⟨by (with_reducible repeat (first | refine blk_drewN ?_ _ | refine blk_drew ?_ | refine blk_alloc ?_ _)); exact BK189.out⟩, ⟨by repeat (first | (with_reducible first | exact HB.out | apply below_alloc | apply pw_below_drewN | apply below_drew1 | refine below_set ?_ GE188.out | refine below_set ?_ GE189.out) | exact HB.out)⟩⟩
   ·rw [if_neg c10] at H
    have c10b0 : ((l0_2.length : Int) == (l1_2.length : Int)) = false := beq_eq_false_iff_ne.mpr c10
    have c10b1 : ((l0_2.length : Int) != (l1_2.length : Int)) = true := bne_iff_ne.mpr c10
    have c10b2 : (l0_2.length == l1_2.length) = false := by first | simpa using c10 | (simp at c10 ⊢; omega)
    have H' := Aside0.mk H
    clear H
    have hnb14 := NB188_189.out
    have hnc14 := NB189_188.out
    obtain ⟨hcz15_0, hcz15_1, hcz15_2, hcz15_3⟩ := Mine.cells4 BK188.out
    have hfz15_0 := blk_frozen BK188.out
    obtain ⟨hcz16_0, hcz16_1, hcz16_2, hcz16_3⟩ := Mine.cells4 BK189.out
    have hfz16_0 := blk_frozen BK189.out
    go_wp2
    repeat (go_quiet (fail); try go_wp2)
    go_meet
    case rel => exact ⟨_, (true), (by first | rfl | (simp; done) | (simp [*]; done)), H', ⟨by first | omega | exact Nat.le_refl _⟩, ⟨by (with_reducible repeat (first | refine blk_drewN ?_ _ | refine blk_drew ?_ | refine blk_alloc ?_ _)); exact BK188.out⟩, ⟨by (with_reducible repeat (first | refine blk_drewN ?_ _ | refine blk_drew ?_ | refine blk_alloc ?_ _)); exact BK189.out⟩, ⟨by repeat (first | (with_reducible first | exact HB.out | apply below_alloc | apply pw_below_drewN | apply below_drew1 | refine below_set ?_ GE188.out | refine below_set ?_ GE189.out) | exact HB.out)⟩⟩
 case rest =>
  clear HC3
  try clear c1
  try clear c2
  try clear p2
  try clear c6
  try clear c6b0
  try clear c7
  try clear c10
  try clear c10b0
  try clear c10b1
  try clear c10b2
  try clear c11
  try clear c14
  try clear hcz12_0 hcz12_1 hcz12_2 hcz12_3
  try clear hcz13_0 hcz13_1 hcz13_2 hcz13_3
  try clear hcz15_0 hcz15_1 hcz15_2 hcz15_3
  try clear hcz16_0 hcz16_1 hcz16_2 hcz16_3
  try clear hcz8_0 hcz8_1 hcz8_2 hcz8_3
  try clear hcz9_0 hcz9_1 hcz9_2 hcz9_3
  try clear hfz12_0
  try clear hfz13_0
  try clear hfz15_0
  try clear hfz16_0
  try clear hfz8_0
  try clear hfz9_0
  obtain ⟨kq, x29_2, rfl, HA, HJ2, BK188, BK189, HB⟩ := hcut
  cases kq with
  | zero => exact absurd HA.out (by simp [fairleadref10_SameRule.j0])
  | succ kj2 =>
   have H := HA.out
   clear HA
   simp only [fairleadref10_SameRule.j0] at H
   by_cases c17 : x29_2 = true
   ·subst c17
    have H1 : (some false) = some r := by rw [if_pos rfl] at H; exact H
    clear H
    have H := H1
    clear H1
    obtain rfl := Option.some.inj H
    go_wp2
    repeat (go_quiet (fail); try go_wp2)
    go_ret
    exact ⟨by first | rfl | (simp [errW_none, errW_some] <;> rfl) | (simp [*, errW_none, errW_some] <;> rfl), by repeat (first | (with_reducible first | exact HB.out | apply below_alloc | apply pw_below_drewN | apply below_drew1 | refine below_set ?_ GE188.out | refine below_set ?_ GE189.out) | exact HB.out)⟩
   ·replace c17 := Bool.eq_false_iff.mpr c17
    subst c17
    have H1 : (fairleadref10_SameRule.l0 kj2 0 a0_0 a0_1 l0_2 l0_3 a1_0 a1_1 l1_2 l1_3) = some r := by rw [if_neg (show ¬ (false = true) by decide)] at H; exact H
    clear H
    have H := H1
    clear H1
    have H' := Aside0.mk H
    clear H
    go_wp2
    repeat (go_quiet (fail); try go_wp2)
    go_loopg [5] kj2 (fun kq v5 w' => ∃ (x5_2 : Int), v5 = .int .i64 x5_2 ∧ Aside0 (fairleadref10_SameRule.l0 kq x5_2 a0_0 a0_1 l0_2 l0_3 a1_0 a1_1 l1_2 l1_3 = some r) ∧ Aside0 (kq ≤ kj2) ∧ Aside0 (w'.heap[gb188]? = some (.cells #[.int .i64 a0_0, .int .i64 a0_1, (.slice A0_2 l0_2.length c0_2), (.slice A0_3 l0_3.length c0_3)] 44 (0, 0))) ∧ Aside0 (w'.heap[gb189]? = some (.cells #[.int .i64 a1_0, .int .i64 a1_1, (.slice A1_2 l1_2.length c1_2), (.slice A1_3 l1_3.length c1_3)] 44 (0, 0))) ∧ Aside0 (Below w.heap.size w w'))
    case atStart => exact ⟨(0), (by first | rfl | (simp; done) | (simp [*]; done)), H', ⟨Nat.le_refl _⟩, ⟨by (with_reducible repeat (first | refine blk_drewN ?_ _ | refine blk_drew ?_ | refine blk_alloc ?_ _)); exact BK188.out⟩, ⟨by (with_reducible repeat (first | refine blk_drewN ?_ _ | refine blk_drew ?_ | refine blk_alloc ?_ _)); exact BK189.out⟩, ⟨by repeat (first | (with_reducible first | exact HB.out | apply below_alloc | apply pw_below_drewN | apply below_drew1 | refine below_set ?_ GE188.out | refine below_set ?_ GE189.out) | exact HB.out)⟩⟩
    case round =>
     clear H'
     try clear c1
     try clear c2
     try clear p2
     try clear c6
     try clear c6b0
     try clear c7
     try clear c10
     try clear c10b0
     try clear c10b1
     try clear c10b2
     try clear c11
     try clear c14
     try clear c17
     try clear hcz12_0 hcz12_1 hcz12_2 hcz12_3
     try clear hcz13_0 hcz13_1 hcz13_2 hcz13_3
     try clear hcz15_0 hcz15_1 hcz15_2 hcz15_3
     try clear hcz16_0 hcz16_1 hcz16_2 hcz16_3
     try clear hcz8_0 hcz8_1 hcz8_2 hcz8_3
     try clear hcz9_0 hcz9_1 hcz9_2 hcz9_3
     try clear hfz12_0
     try clear hfz13_0
     try clear hfz15_0
     try clear hfz16_0
     try clear hfz8_0
     try clear hfz9_0
     try clear p2
     obtain ⟨x5_2, rfl, HA, HK2, BK188, BK189, HB⟩ := hrel
     cases gk with
     | zero => exact absurd HA.out (by simp [fairleadref10_SameRule.l0])
     | succ k2 =>
      have H := HA.out
      clear HA
      simp only [fairleadref10_SameRule.l0] at H
      by_cases c18 : x5_2 < (l0_2.length : Int)
      ·rw [if_pos c18] at H
       have c18b0 : decide (x5_2 < (l0_2.length : Int)) = true := decide_eq_true c18
       clear c18
       by_cases c19 : 0 ≤ x5_2
       ·rw [if_pos c19] at H
        have c19b0 : decide (0 ≤ x5_2) = true := decide_eq_true c19
        clear c19
        by_cases c20 : x5_2 < (l1_2.length : Int)
        ·rw [if_pos c20] at H
         have c20b0 : decide (x5_2 < (l1_2.length : Int)) = true := decide_eq_true c20
         clear c20
         by_cases c21 : (rdOf ByteArray.empty l0_2 x5_2).toList = (rdOf ByteArray.empty l1_2 x5_2).toList
         ·rw [if_pos c21] at H
          have c21b0 : ((rdOf ByteArray.empty l0_2 x5_2).toList == (rdOf ByteArray.empty l1_2 x5_2).toList) = true := beq_iff_eq.mpr c21
          have c21b1 : ((rdOf ByteArray.empty l0_2 x5_2).toList != (rdOf ByteArray.empty l1_2 x5_2).toList) = false := bne_eq_false_iff_eq.mpr c21
          clear c21
          have H' := Aside0.mk H
          clear H
          have hnb22 := NB188_189.out
          have hnc22 := NB189_188.out
          obtain ⟨hcz23_0, hcz23_1, hcz23_2, hcz23_3⟩ := Mine.cells4 BK188.out
          have hfz23_0 := blk_frozen BK188.out
          have p190 : 0 ≤ (x5_2 : Int) := of_decide_eq_true (by first | (with_reducible assumption) | assumption)
          have q190 : x5_2 < (l0_2.length : Int) := of_decide_eq_true (by first | (with_reducible assumption) | assumption)
          obtain ⟨ad190, e190, hx190_0⟩ := Kd.at_string HR0_2.out x5_2 p190 q190
          cases e190
          replace hx190_0 := (HB.out.cell (World.block_lt_of_cell? w _ hx190_0)).trans hx190_0
          replace p190 := eq_true p190
          replace q190 := eq_true q190
          obtain ⟨hcz24_0, hcz24_1, hcz24_2, hcz24_3⟩ := Mine.cells4 BK189.out
          have hfz24_0 := blk_frozen BK189.out
          have p191 : 0 ≤ (x5_2 : Int) := of_decide_eq_true (by first | (with_reducible assumption) | assumption)
          have q191 : x5_2 < (l1_2.length : Int) := of_decide_eq_true (by first | (with_reducible assumption) | assumption)
          obtain ⟨ad191, e191, hx191_0⟩ := Kd.at_string HR1_2.out x5_2 p191 q191
          cases e191
          replace hx191_0 := (HB.out.cell (World.block_lt_of_cell? w _ hx191_0)).trans hx191_0
          replace p191 := eq_true p191
          replace q191 := eq_true q191
          go_wp2
          repeat (go_quiet (fail); try go_wp2)
          go_roundg k2
          case measure => have := HJ2.out; have := HK2.out; omega
          case rel => exact ⟨(wrap64 (x5_2 + 1)), (by first | rfl | (simp; done) | (simp [*]; done)), H', ⟨by have := HJ2.out; have := HK2.out; omega⟩, ⟨by (with_reducible repeat (first | refine blk_drewN ?_ _ | refine blk_drew ?_ | refine blk_alloc ?_ _)); exact BK188.out⟩, ⟨by (with_reducible repeat (first | refine blk_drewN ?_ _ | refine blk_drew ?_ | refine blk_alloc ?_ _)); exact BK189.out⟩, ⟨by repeat (first | (with_reducible first | exact HB.out | apply below_alloc | apply pw_below_drewN | apply below_drew1 | refine below_set ?_ GE188.out | refine below_set ?_ GE189.out) | exact HB.out)⟩⟩
         ·rw [if_neg c21] at H
          have c21b0 : ((rdOf ByteArray.empty l0_2 x5_2).toList == (rdOf ByteArray.empty l1_2 x5_2).toList) = false := beq_eq_false_iff_ne.mpr c21
          have c21b1 : ((rdOf ByteArray.empty l0_2 x5_2).toList != (rdOf ByteArray.empty l1_2 x5_2).toList) = true := bne_iff_ne.mpr c21
          obtain rfl := Option.some.inj H
          have hnb25 := NB188_189.out
          have hnc25 := NB189_188.out
          obtain ⟨hcz26_0, hcz26_1, hcz26_2, hcz26_3⟩ := Mine.cells4 BK188.out
          have hfz26_0 := blk_frozen BK188.out
          have p190 : 0 ≤ (x5_2 : Int) := of_decide_eq_true (by first | (with_reducible assumption) | assumption)
          have q190 : x5_2 < (l0_2.length : Int) := of_decide_eq_true (by first | (with_reducible assumption) | assumption)
          obtain ⟨ad190, e190, hx190_0⟩ := Kd.at_string HR0_2.out x5_2 p190 q190
          cases e190
          replace hx190_0 := (HB.out.cell (World.block_lt_of_cell? w _ hx190_0)).trans hx190_0
          replace p190 := eq_true p190
          replace q190 := eq_true q190
          obtain ⟨hcz27_0, hcz27_1, hcz27_2, hcz27_3⟩ := Mine.cells4 BK189.out
          have hfz27_0 := blk_frozen BK189.out
          have p191 : 0 ≤ (x5_2 : Int) := of_decide_eq_true (by first | (with_reducible assumption) | assumption)
          have q191 : x5_2 < (l1_2.length : Int) := of_decide_eq_true (by first | (with_reducible assumption) | assumption)
          obtain ⟨ad191, e191, hx191_0⟩ := Kd.at_string HR1_2.out x5_2 p191 q191
          cases e191
          replace hx191_0 := (HB.out.cell (World.block_lt_of_cell? w _ hx191_0)).trans hx191_0
          replace p191 := eq_true p191
          replace q191 := eq_true q191
          go_wp2
          repeat (go_quiet (fail); try go_wp2)
          go_ret
          exact ⟨by first | rfl | (simp [errW_none, errW_some] <;> rfl) | (simp [*, errW_none, errW_some] <;> rfl), by repeat (first | (with_reducible first | exact HB.out | apply below_alloc | apply pw_below_drewN | apply below_drew1 | refine below_set ?_ GE188.out | refine below_set ?_ GE189.out) | exact HB.out)⟩
        ·rw [if_neg c20] at H
         exact absurd H (by simp)
       ·rw [if_neg c19] at H
        exact absurd H (by simp)
      ·rw [if_neg c18] at H
       have c18b0 : decide (x5_2 < (l0_2.length : Int)) = false := decide_eq_false c18
       clear c18
       have H' := Aside0.mk H
       clear H
       have hnb28 := NB188_189.out
       have hnc28 := NB189_188.out
       obtain ⟨hcz29_0, hcz29_1, hcz29_2, hcz29_3⟩ := Mine.cells4 BK188.out
       have hfz29_0 := blk_frozen BK188.out
       go_wp2
       repeat (go_quiet (fail); try go_wp2)
       go_loopg [6] k2 (fun kq v6 w' => ∃ (x6_3 : Int), v6 = .int .i64 x6_3 ∧ Aside0 (fairleadref10_SameRule.l1 kq x6_3 a0_0 a0_1 l0_2 l0_3 a1_0 a1_1 l1_2 l1_3 = some r) ∧ Aside0 (kq ≤ k2) ∧ Aside0 (w'.heap[gb188]? = some (.cells #[.int .i64 a0_0, .int .i64 a0_1, (.slice A0_2 l0_2.length c0_2), (.slice A0_3 l0_3.length c0_3)] 44 (0, 0))) ∧ Aside0 (w'.heap[gb189]? = some (.cells #[.int .i64 a1_0, .int .i64 a1_1, (.slice A1_2 l1_2.length c1_2), (.slice A1_3 l1_3.length c1_3)] 44 (0, 0))) ∧ Aside0 (Below w.heap.size w w'))
       case atStart => exact ⟨(0), (by first | rfl | (simp; done) | (simp [*]; done)), H', ⟨Nat.le_refl _⟩, ⟨by (with_reducible repeat (first | refine blk_drewN ?_ _ | refine blk_drew ?_ | refine blk_alloc ?_ _)); exact BK188.out⟩, ⟨by (with_reducible repeat (first | refine blk_drewN ?_ _ | refine blk_drew ?_ | refine blk_alloc ?_ _)); exact BK189.out⟩, ⟨by repeat (first | (with_reducible first | exact HB.out | apply below_alloc | apply pw_below_drewN | apply below_drew1 | refine below_set ?_ GE188.out | refine below_set ?_ GE189.out) | exact HB.out)⟩⟩
       case round =>
        clear H'
        try clear c1
        try clear p1
        try clear q1
        try clear hx1
        try clear c2
        try clear p2
        try clear c6
        try clear c6b0
        try clear p6
        try clear c7
        try clear c10
        try clear c10b0
        try clear c10b1
        try clear c10b2
        try clear c11
        try clear c14
        try clear c17
        try clear c18
        try clear c18b0
        try clear c19
        try clear c19b0
        try clear p19
        try clear q19
        try clear hx19
        try clear c20
        try clear c20b0
        try clear c21
        try clear c21b0
        try clear c21b1
        try clear c22
        try clear c25
        try clear c27
        try clear c28
        try clear hcz12_0 hcz12_1 hcz12_2 hcz12_3
        try clear hcz13_0 hcz13_1 hcz13_2 hcz13_3
        try clear hcz15_0 hcz15_1 hcz15_2 hcz15_3
        try clear hcz16_0 hcz16_1 hcz16_2 hcz16_3
        try clear hcz23_0 hcz23_1 hcz23_2 hcz23_3
        try clear hcz24_0 hcz24_1 hcz24_2 hcz24_3
        try clear hcz26_0 hcz26_1 hcz26_2 hcz26_3
        try clear hcz27_0 hcz27_1 hcz27_2 hcz27_3
        try clear hcz29_0 hcz29_1 hcz29_2 hcz29_3
        try clear hcz8_0 hcz8_1 hcz8_2 hcz8_3
        try clear hcz9_0 hcz9_1 hcz9_2 hcz9_3
        try clear hfz12_0
        try clear hfz13_0
        try clear hfz15_0
        try clear hfz16_0
        try clear hfz23_0
        try clear hfz24_0
        try clear hfz26_0
        try clear hfz27_0
        try clear hfz29_0
        try clear hfz8_0
        try clear hfz9_0
        try clear hx190_0
        try clear hx191_0
        try clear p190
        try clear p191
        try clear p2
        try clear q190
        try clear q191
        obtain ⟨x6_3, rfl, HA, HK3, BK188, BK189, HB⟩ := hrel
        cases gk with
        | zero => exact absurd HA.out (by simp [fairleadref10_SameRule.l1])
        | succ k3 =>
         have H := HA.out
         clear HA
         simp only [fairleadref10_SameRule.l1] at H
         by_cases c30 : x6_3 < (l0_3.length : Int)
         ·rw [if_pos c30] at H
          have c30b0 : decide (x6_3 < (l0_3.length : Int)) = true := decide_eq_true c30
          clear c30
          by_cases c31 : 0 ≤ x6_3
          ·rw [if_pos c31] at H
           have c31b0 : decide (0 ≤ x6_3) = true := decide_eq_true c31
           clear c31
           by_cases c32 : x6_3 < (l1_3.length : Int)
           ·rw [if_pos c32] at H
            have c32b0 : decide (x6_3 < (l1_3.length : Int)) = true := decide_eq_true c32
            clear c32
            by_cases c33 : (!(((rd_T46 l0_3 x6_3).f0) == ((rd_T46 l1_3 x6_3).f0)) || (!(((rd_T46 l0_3 x6_3).f1) == ((rd_T46 l1_3 x6_3).f1)) || (!(((rd_T46 l0_3 x6_3).f2) == ((rd_T46 l1_3 x6_3).f2)) || (!(((rd_T46 l0_3 x6_3).f3) == ((rd_T46 l1_3 x6_3).f3)))))) = true
            ·rw [if_pos c33] at H
             have c33b0 : (!(((rd_T46 l0_3 x6_3).f0) == ((rd_T46 l1_3 x6_3).f0)) || (!(((rd_T46 l0_3 x6_3).f1) == ((rd_T46 l1_3 x6_3).f1)) || (!(((rd_T46 l0_3 x6_3).f2) == ((rd_T46 l1_3 x6_3).f2)) || (!(((rd_T46 l0_3 x6_3).f3) == ((rd_T46 l1_3 x6_3).f3)))))) = true := c33
             clear c33
             obtain rfl := Option.some.inj H
             have hnb34 := NB188_189.out
             have hnc34 := NB189_188.out
             obtain ⟨hcz35_0, hcz35_1, hcz35_2, hcz35_3⟩ := Mine.cells4 BK188.out
             have hfz35_0 := blk_frozen BK188.out
             have p192 : 0 ≤ (x6_3 : Int) := of_decide_eq_true (by first | (with_reducible assumption) | assumption)
             have q192 : x6_3 < (l0_3.length : Int) := of_decide_eq_true (by first | (with_reducible assumption) | assumption)
             obtain ⟨ad192, e192, hx192_0, hx192_1, hx192_2, hx192_3⟩ := at_T46 HR0_3.out x6_3 p192 q192
             cases e192
             replace hx192_0 := (HB.out.cell (World.block_lt_of_cell? w _ hx192_0)).trans hx192_0
             replace hx192_1 := (HB.out.cell (World.block_lt_of_cell? w _ hx192_1)).trans hx192_1
             replace hx192_2 := (HB.out.cell (World.block_lt_of_cell? w _ hx192_2)).trans hx192_2
             replace hx192_3 := (HB.out.cell (World.block_lt_of_cell? w _ hx192_3)).trans hx192_3
             replace p192 := eq_true p192
             replace q192 := eq_true q192
             obtain ⟨hcz36_0, hcz36_1, hcz36_2, hcz36_3⟩ := Mine.cells4 BK189.out
             have hfz36_0 := blk_frozen BK189.out
             have p193 : 0 ≤ (x6_3 : Int) := of_decide_eq_true (by first | (with_reducible assumption) | assumption)
             have q193 : x6_3 < (l1_3.length : Int) := of_decide_eq_true (by first | (with_reducible assumption) | assumption)
             obtain ⟨ad193, e193, hx193_0, hx193_1, hx193_2, hx193_3⟩ := at_T46 HR1_3.out x6_3 p193 q193
             cases e193
             replace hx193_0 := (HB.out.cell (World.block_lt_of_cell? w _ hx193_0)).trans hx193_0
             replace hx193_1 := (HB.out.cell (World.block_lt_of_cell? w _ hx193_1)).trans hx193_1
             replace hx193_2 := (HB.out.cell (World.block_lt_of_cell? w _ hx193_2)).trans hx193_2
             replace hx193_3 := (HB.out.cell (World.block_lt_of_cell? w _ hx193_3)).trans hx193_3
             replace p193 := eq_true p193
             replace q193 := eq_true q193
             go_wp2
             repeat (go_quiet (fail); try go_wp2)
             go_ret
             exact ⟨by first | rfl | (simp [errW_none, errW_some] <;> rfl) | (simp [*, errW_none, errW_some] <;> rfl), by repeat (first | (with_reducible first | exact HB.out | apply below_alloc | apply pw_below_drewN | apply below_drew1 | refine below_set ?_ GE188.out | refine below_set ?_ GE189.out) | exact HB.out)⟩
            ·rw [if_neg c33] at H
             have c33b0 : (!(((rd_T46 l0_3 x6_3).f0) == ((rd_T46 l1_3 x6_3).f0)) || (!(((rd_T46 l0_3 x6_3).f1) == ((rd_T46 l1_3 x6_3).f1)) || (!(((rd_T46 l0_3 x6_3).f2) == ((rd_T46 l1_3 x6_3).f2)) || (!(((rd_T46 l0_3 x6_3).f3) == ((rd_T46 l1_3 x6_3).f3)))))) = false := by simpa using c33
             clear c33
             have H' := Aside0.mk H
             clear H
             have hnb37 := NB188_189.out
             have hnc37 := NB189_188.out
             obtain ⟨hcz38_0, hcz38_1, hcz38_2, hcz38_3⟩ := Mine.cells4 BK188.out
             have hfz38_0 := blk_frozen BK188.out
             have p192 : 0 ≤ (x6_3 : Int) := of_decide_eq_true (by first | (with_reducible assumption) | assumption)
             have q192 : x6_3 < (l0_3.length : Int) := of_decide_eq_true (by first | (with_reducible assumption) | assumption)
             obtain ⟨ad192, e192, hx192_0, hx192_1, hx192_2, hx192_3⟩ := at_T46 HR0_3.out x6_3 p192 q192
             cases e192
             replace hx192_0 := (HB.out.cell (World.block_lt_of_cell? w _ hx192_0)).trans hx192_0
             replace hx192_1 := (HB.out.cell (World.block_lt_of_cell? w _ hx192_1)).trans hx192_1
             replace hx192_2 := (HB.out.cell (World.block_lt_of_cell? w _ hx192_2)).trans hx192_2
             replace hx192_3 := (HB.out.cell (World.block_lt_of_cell? w _ hx192_3)).trans hx192_3
             replace p192 := eq_true p192
             replace q192 := eq_true q192
             obtain ⟨hcz39_0, hcz39_1, hcz39_2, hcz39_3⟩ := Mine.cells4 BK189.out
             have hfz39_0 := blk_frozen BK189.out
             have p193 : 0 ≤ (x6_3 : Int) := of_decide_eq_true (by first | (with_reducible assumption) | assumption)
             have q193 : x6_3 < (l1_3.length : Int) := of_decide_eq_true (by first | (with_reducible assumption) | assumption)
             obtain ⟨ad193, e193, hx193_0, hx193_1, hx193_2, hx193_3⟩ := at_T46 HR1_3.out x6_3 p193 q193
             cases e193
             replace hx193_0 := (HB.out.cell (World.block_lt_of_cell? w _ hx193_0)).trans hx193_0
             replace hx193_1 := (HB.out.cell (World.block_lt_of_cell? w _ hx193_1)).trans hx193_1
             replace hx193_2 := (HB.out.cell (World.block_lt_of_cell? w _ hx193_2)).trans hx193_2
             replace hx193_3 := (HB.out.cell (World.block_lt_of_cell? w _ hx193_3)).trans hx193_3
             replace p193 := eq_true p193
             replace q193 := eq_true q193
             go_wp2
             repeat (go_quiet (fail); try go_wp2)
             go_roundg k3
             case measure => have := HJ2.out; have := HK2.out; have := HK3.out; omega
             case rel => exact ⟨(wrap64 (x6_3 + 1)), (by first | rfl | (simp; done) | (simp [*]; done)), H', ⟨by have := HJ2.out; have := HK2.out; have := HK3.out; omega⟩, ⟨by (with_reducible repeat (first | refine blk_drewN ?_ _ | refine blk_drew ?_ | refine blk_alloc ?_ _)); exact BK188.out⟩, ⟨by (with_reducible repeat (first | refine blk_drewN ?_ _ | refine blk_drew ?_ | refine blk_alloc ?_ _)); exact BK189.out⟩, ⟨by repeat (first | (with_reducible first | exact HB.out | apply below_alloc | apply pw_below_drewN | apply below_drew1 | refine below_set ?_ GE188.out | refine below_set ?_ GE189.out) | exact HB.out)⟩⟩
           ·rw [if_neg c32] at H
            exact absurd H (by simp)
          ·rw [if_neg c31] at H
           exact absurd H (by simp)
         ·rw [if_neg c30] at H
          have c30b0 : decide (x6_3 < (l0_3.length : Int)) = false := decide_eq_false c30
          clear c30
          obtain rfl := Option.some.inj H
          have hnb40 := NB188_189.out
          have hnc40 := NB189_188.out
          obtain ⟨hcz41_0, hcz41_1, hcz41_2, hcz41_3⟩ := Mine.cells4 BK188.out
          have hfz41_0 := blk_frozen BK188.out
          go_wp2
          repeat (go_quiet (fail); try go_wp2)
          go_ret
          exact ⟨by first | rfl | (simp [errW_none, errW_some] <;> rfl) | (simp [*, errW_none, errW_some] <;> rfl), by repeat (first | (with_reducible first | exact HB.out | apply below_alloc | apply pw_below_drewN | apply below_drew1 | refine below_set ?_ GE188.out | refine below_set ?_ GE189.out) | exact HB.out)⟩
end Go.Proofs.Ytfahchgglapglaa.M
