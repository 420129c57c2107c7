-- Laid by a program (wip/tools/myprint.py) out of the loaded program's own print: for each Go function a Lean function and the proof of its contract.
import Derived.Test.YteojfjlklikaoaaP5Mx0
import Derived.Test.YteojfjlklikaoaaP5Mx3
import Derived.Test.YteojfjlklikaoaaP5Mx5
namespace Go.Proofs.Yteojfjlklikaoaa.M
open Go.RowKit Go.Proofs.YteojfjlklikaoaaW.PrintWords Go.Proofs.YteojfjlklikaoaaW.PrintLast Go.Proofs.YteojfjlklikaoaaW.PrintMore
attribute [local go_sem] max2_int min2_int max_two min_two max_three min_three max_four min_four   -- for this text's walks alone
set_option linter.unusedVariables false
set_option linter.unusedSimpArgs false
-- HAND rounds=False making=True
def act_number.f (a0 : Int) : Option (Int) := if 1 ≤ a0 then (if a0 ≤ 8 then (some (rd ([2147483648, 0, 196608, 327680, 2143289344, 2146435072, 2147221504, 2147418112] : List Int) (a0 - 1))) else (none)) else (none)
set_option maxHeartbeats 8000000 in
set_option maxRecDepth 100000 in
theorem act_number.calls (a0 : Int) (r : Int) (w : World) (h : act_number.f a0 = some r) :
    Calls Try.prog 27 #[.int .i64 a0] w fun e w' => e = .returned (.int .u32 r) ∧ Below w.heap.size w w' := by
  unfold act_number.f at h
  by_cases h1 : 1 ≤ a0
  · rw [if_pos h1] at h
    by_cases h2 : a0 ≤ 8
    · rw [if_pos h2] at h
      have hk : a0 = 1 ∨ a0 = 2 ∨ a0 = 3 ∨ a0 = 4 ∨ a0 = 5 ∨ a0 = 6 ∨ a0 = 7 ∨ a0 = 8 := by omega
      clear h1 h2
      rcases hk with rfl | rfl | rfl | rfl | rfl | rfl | rfl | rfl
      all_goals
        obtain rfl := Option.some.inj h
        clear h
        go_enter Try.func27, Try.ntmps27
        go_wp2
        go_ret
        exact ⟨rfl, by repeat (first | exact Below.refl _ _ | apply below_alloc | refine below_set ?_ (Nat.le_refl _))⟩
    · rw [if_neg h2] at h
      cases h
  · rw [if_neg h1] at h
    cases h
def act_bears.f (a0 : Int) : Option (Bool) := if a0 = 3 then (some true) else (if a0 = 4 then (some true) else (some (a0 == 6)))
set_option maxHeartbeats 8000000 in
set_option maxRecDepth 100000 in
theorem act_bears.calls (a0 : Int) (r : Bool) (w : World) (h : act_bears.f a0 = some r) :
    Calls Try.prog 28 #[.int .i64 a0] w fun e w' => e = .returned (.bool r) ∧ Drawn0 w w' := by
  have H : (if a0 = 3 then (some true) else (if a0 = 4 then (some true) else (some (a0 == 6)))) = some r := h
  clear h
  by_cases c2 : a0 = 3
  · rw [if_pos c2] at H
    have c2b0 : (a0 == 3) = true := beq_iff_eq.mpr c2
    have c2b1 : (a0 != 3) = false := bne_eq_false_iff_eq.mpr c2
    clear c2
    obtain rfl := Option.some.inj H
    go_enter Try.func28, Try.ntmps28
    go_wp2
    go_ret
    exact ⟨by first | rfl | (simp; done) | (simp [*]; done), by repeat (first | exact Drawn0.refl _ | apply Drawn0.step)⟩
  · rw [if_neg c2] at H
    have c2b0 : (a0 == 3) = false := beq_eq_false_iff_ne.mpr c2
    have c2b1 : (a0 != 3) = true := bne_iff_ne.mpr c2
    by_cases c3 : a0 = 4
    · rw [if_pos c3] at H
      have c3b0 : (a0 == 4) = true := beq_iff_eq.mpr c3
      have c3b1 : (a0 != 4) = false := bne_eq_false_iff_eq.mpr c3
      clear c3
      obtain rfl := Option.some.inj H
      go_enter Try.func28, Try.ntmps28
      go_wp2
      go_ret
      exact ⟨by first | rfl | (simp; done) | (simp [*]; done), by repeat (first | exact Drawn0.refl _ | apply Drawn0.step)⟩
    · rw [if_neg c3] at H
      have c3b0 : (a0 == 4) = false := beq_eq_false_iff_ne.mpr c3
      have c3b1 : (a0 != 4) = true := bne_iff_ne.mpr c3
      obtain rfl := Option.some.inj H
      go_enter Try.func28, Try.ntmps28
      go_wp2
      go_ret
      exact ⟨by first | rfl | (simp; done) | (simp [*]; done), by repeat (first | exact Drawn0.refl _ | apply Drawn0.step)⟩
def act_Of.l0 : Nat → Int → Int → Option (Int × Int)
  | 0, _, _ => none
  | k + 1, x0, x3 => if x3 ≤ 8 then ((act_number.f x3).bind fun t147 => (if t147 = (Go.bits .andNot .u32 x0 65535) then ((act_bears.f x3).bind fun t149 => (if t149 = true then (some (x3, wrap64 (Go.bits .and .u32 x0 65535))) else (some (x3, 0)))) else (act_Of.l0 k x0 (wrap64 (x3 + 1))))) else (some (1, 0))
def act_Of.f (k : Nat) (a0 : Int) : Option (Int × Int) := act_Of.l0 k a0 1
set_option maxHeartbeats 8000000 in
set_option maxRecDepth 100000 in
theorem act_Of.calls (k : Nat) (a0 : Int) (r1 : Int) (r2 : Int) (w : World) (h : act_Of.f k a0 = some (r1, r2)) :
    Calls Try.prog 18 #[.int .u32 a0] w fun e w' => e = .returned (.agg #[.int .i64 r1, .int .i64 r2]) ∧ Below w.heap.size w w' := by
  have hu46 := Try.underlying46
  have HB := Aside0.mk (Below.refl w.heap.size w)
  have H : (act_Of.l0 k a0 1) = some (r1, r2) := h
  clear h
  have H' := Aside0.mk H
  clear H
  go_enter Try.func18, Try.ntmps18
  go_wp2_with (first | ((with_reducible refine gate_dst (N := 2) rfl ?_); refine box_event ?hg (N := 2) ?hd (cs := #[.int .i64 0, .int .i64 0]) (t := 46) ?hr ?_; (case hd => rfl); (case hg => rfl); (case hr => first | (go_simp; done) | (go_simp; rfl)); intro gb146 hg w2 hbox hb; have n0_ := Aside0.mk (below_step (by repeat (first | (with_reducible first | exact HB.out | apply below_alloc | apply pw_below_drewN | apply below_drew1) | exact HB.out)) hb); have n1_ := Aside0.mk (hbox); have n2_ := Aside0.mk ((by rw [hg]; exact (below_size (by repeat (first | (with_reducible first | exact HB.out | apply below_alloc | apply pw_below_drewN | apply below_drew1) | exact HB.out))) : w.heap.size ≤ gb146)); have n3_ := Aside0.mk ((by rw [hg]; exact (below_size (by repeat (first | (with_reducible first | exact HB.out | apply below_alloc | apply pw_below_drewN | apply below_drew1) | exact HB.out))) : w.heap.size ≤ gb146)); clear HB; have HB := n0_; have BK146 := n1_; have GW146 := n2_; have GE146 := n3_; clear n0_ n1_ n2_ n3_; clear hb hbox hg))
  go_loopg [3] k (fun kq v3 w' => ∃ (x3_1 : Int) (Z0 : Int) (Z1 : Int), v3 = .int .i64 x3_1 ∧ Aside0 (act_Of.l0 kq a0 x3_1 = some (r1, r2)) ∧ Aside0 (kq ≤ k) ∧ Aside0 (w'.heap[gb146]? = some (.cells #[.int .i64 Z0, .int .i64 Z1] 46 (0, 0))) ∧ Aside0 (Below w.heap.size w w'))
  case atStart => exact ⟨(1), (0), (0), (by first | rfl | (simp; done) | (simp [*]; done)), H', ⟨Nat.le_refl _⟩, ⟨by (with_reducible repeat (first | refine blk_drewN ?_ _ | refine blk_drew ?_ | refine blk_alloc ?_ _)); exact BK146.out⟩, ⟨by repeat (first | (with_reducible first | exact HB.out | apply below_alloc | apply pw_below_drewN | apply below_drew1 | refine below_set ?_ GE146.out) | exact HB.out)⟩⟩
  case round =>
    clear H'
    try clear c1
    try clear p2
    obtain ⟨x3_1, Z0, Z1, rfl, HA, HK1, BK146, HB⟩ := hrel
    cases gk with
    | zero => exact absurd HA.out (by simp [act_Of.l0])
    | succ k1 =>
      have H := HA.out
      clear HA
      simp only [act_Of.l0] at H
      by_cases c3 : x3_1 ≤ 8
      · rw [if_pos c3] at H
        have c3b0 : decide (x3_1 ≤ 8) = true := decide_eq_true c3
        clear c3
        replace H := Option.bind_eq_some_iff.mp H
        obtain ⟨t147, A40, H⟩ := H
        replace H : (if t147 = (Go.bits .andNot .u32 a0 65535) then ((act_bears.f x3_1).bind fun t149 => (if t149 = true then (some (x3_1, wrap64 (Go.bits .and .u32 a0 65535))) else (some (x3_1, 0)))) else (act_Of.l0 k1 a0 (wrap64 (x3_1 + 1)))) = some (r1, r2) := H
        have A4 := Aside0.mk A40
        clear A40
        by_cases c5 : t147 = (Go.bits .andNot .u32 a0 65535)
        · rw [if_pos c5] at H
          have c5b0 : (t147 == (Go.bits .andNot .u32 a0 65535)) = true := beq_iff_eq.mpr c5
          have c5b1 : (t147 != (Go.bits .andNot .u32 a0 65535)) = false := bne_eq_false_iff_eq.mpr c5
          clear c5
          replace H := Option.bind_eq_some_iff.mp H
          obtain ⟨t149, A60, H⟩ := H
          replace H : (if t149 = true then (some (x3_1, wrap64 (Go.bits .and .u32 a0 65535))) else (some (x3_1, 0))) = some (r1, r2) := H
          have A6 := Aside0.mk A60
          clear A60
          by_cases c7 : t149 = true
          · subst c7
            have H1 : (some (x3_1, wrap64 (Go.bits .and .u32 a0 65535))) = some (r1, r2) := by rw [if_pos rfl] at H; exact H
            clear H
            have H := H1
            clear H1
            simp only [Option.some.injEq, Prod.mk.injEq] at H
            obtain ⟨rfl, rfl⟩ := H
            go_wp2_with (first | ((with_reducible refine gate_callee (f := 27) rfl ?_); refine goesL_ (some 10) rfl rfl Try.func27 (by kernel_rfl) rfl #[.int .i64 x3_1] rfl (by (try simp only [List.map_toArray, List.map_cons, List.map_nil]); first | done | rfl | (simp only [List.length_drop, List.length_take]; rfl)) ?_; (with_reducible refine (act_number.calls x3_1 t147 _ A4.out).mono ?_); rintro e w8 ⟨rfl, hb⟩; refine ⟨_, rfl, ?_⟩; have n0_ := Aside0.mk (blk_below (g := gb146) (o := .cells #[.int .i64 Z0, .int .i64 Z1] 46 (0, 0)) (by (with_reducible repeat (first | refine blk_drewN ?_ _ | refine blk_drew ?_ | refine blk_alloc ?_ _)); exact BK146.out) hb); have n1_ := Aside0.mk (below_step (by repeat (first | (with_reducible first | exact HB.out | apply below_alloc | apply pw_below_drewN | apply below_drew1 | refine below_set ?_ GE146.out) | exact HB.out)) hb); clear BK146; clear HB; have BK146 := n0_; have HB := n1_; clear n0_ n1_; (try clear hb); (try clear hb2); (try clear hk); (try clear hi)) | ((with_reducible refine gate_dst (N := 4) rfl ?_); refine box_event ?hg (N := 4) ?hd (cs := #[.int .i64 0, .int .i64 0]) (t := 46) ?hr ?_; (case hd => rfl); (case hg => rfl); (case hr => first | (go_simp; done) | (go_simp; rfl)); intro gb148 hg w9 hbox hb; have n0_ := Aside0.mk (blk_below (g := gb146) (o := .cells #[.int .i64 Z0, .int .i64 Z1] 46 (0, 0)) (by (with_reducible repeat (first | refine blk_drewN ?_ _ | refine blk_drew ?_ | refine blk_alloc ?_ _)); exact BK146.out) hb); have n1_ := Aside0.mk (below_step (by repeat (first | (with_reducible first | exact HB.out | apply below_alloc | apply pw_below_drewN | apply below_drew1 | refine below_set ?_ GE146.out) | exact HB.out)) hb); have n2_ := Aside0.mk (hbox); have n3_ := Aside0.mk ((by rw [hg]; exact (below_size (by repeat (first | (with_reducible first | exact HB.out | apply below_alloc | apply pw_below_drewN | apply below_drew1 | refine below_set ?_ GE146.out) | exact HB.out))) : w.heap.size ≤ gb148)); have n4_ := Aside0.mk ((by rw [hg]; exact (below_size (by repeat (first | (with_reducible first | exact HB.out | apply below_alloc | apply pw_below_drewN | apply below_drew1 | refine below_set ?_ GE146.out) | exact HB.out))) : w.heap.size ≤ gb148)); have n5_ := Aside0.mk ((by rw [hg]; exact Nat.ne_of_lt (blk_lt (g := gb146) (o := .cells #[.int .i64 Z0, .int .i64 Z1] 46 (0, 0)) (by (with_reducible repeat (first | refine blk_drewN ?_ _ | refine blk_drew ?_ | refine blk_alloc ?_ _)); exact BK146.out)) : gb146 ≠ gb148)); have n6_ := Aside0.mk ((by rw [hg]; exact Nat.ne_of_gt (blk_lt (g := gb146) (o := .cells #[.int .i64 Z0, .int .i64 Z1] 46 (0, 0)) (by (with_reducible repeat (first | refine blk_drewN ?_ _ | refine blk_drew ?_ | refine blk_alloc ?_ _)); exact BK146.out)) : gb148 ≠ gb146)); clear BK146; clear HB; have BK146 := n0_; have HB := n1_; have BK148 := n2_; have GW148 := n3_; have GE148 := n4_; have NB146_148 := n5_; have NB148_146 := n6_; clear n0_ n1_ n2_ n3_ n4_ n5_ n6_; clear hb hbox hg; have hnb10 := NB148_146.out; have hnc10 := NB146_148.out; have hcz11_0 : w9.cell? ⟨gb148, 0, none⟩ = some (.int .i64 0) := (blk_cell BK148.out 0).trans rfl; have hcz11_1 : w9.cell? ⟨gb148, 1, none⟩ = some (.int .i64 0) := (blk_cell BK148.out 1).trans rfl; have hfz11_0 := blk_frozen BK148.out) | ((with_reducible refine gate_callee (f := 28) rfl ?_); refine goesL_ (some 17) rfl rfl Try.func28 (by kernel_rfl) rfl #[.int .i64 x3_1] rfl (by (try simp only [List.map_toArray, List.map_cons, List.map_nil]); first | done | rfl | (simp only [List.length_drop, List.length_take]; rfl)) ?_; (with_reducible refine (act_bears.calls x3_1 true _ A6.out).mono ?_); rintro e w' ⟨rfl, ⟨nd, rfl⟩⟩; refine ⟨_, rfl, ?_⟩; have hcz12_0 : w9.cell? ⟨gb146, 0, none⟩ = some (.int .i64 Z0) := (blk_cell BK146.out 0).trans rfl; have hcz12_1 : w9.cell? ⟨gb146, 1, none⟩ = some (.int .i64 Z1) := (blk_cell BK146.out 1).trans rfl; have hfz12_0 := blk_frozen BK146.out))
            refine bodyPost_ret (results_cell_row rfl _ _ gb146 46 #[.int .i64 x3_1, .int .i64 (wrap64 (Go.bits .and .u32 a0 65535))] (0, 0) _ rfl (by (with_reducible repeat (first | refine blk_drewN ?_ _ | refine blk_drew ?_ | refine blk_alloc ?_ _)); refine blk_put (cs := #[.int .i64 x3_1, .int .i64 Z1]) ?_ 1 _ rfl; (with_reducible repeat (first | refine blk_drewN ?_ _ | refine blk_drew ?_ | refine blk_alloc ?_ _)); refine blk_put (cs := #[.int .i64 Z0, .int .i64 Z1]) ?_ 0 _ rfl; (with_reducible repeat (first | refine blk_drewN ?_ _ | refine blk_drew ?_ | refine blk_alloc ?_ _)); refine blk_far ?_ NB146_148.out _; (with_reducible repeat (first | refine blk_drewN ?_ _ | refine blk_drew ?_ | refine blk_alloc ?_ _)); refine blk_far ?_ NB146_148.out _; (with_reducible repeat (first | refine blk_drewN ?_ _ | refine blk_drew ?_ | refine blk_alloc ?_ _)); refine blk_far ?_ NB146_148.out _; (with_reducible repeat (first | refine blk_drewN ?_ _ | refine blk_drew ?_ | refine blk_alloc ?_ _)); exact BK146.out) Try.underlying46 rfl (by kernel_rfl)) rfl ?_
            exact ⟨by first | rfl | (simp [errW_none, errW_some] <;> rfl) | (simp [*, errW_none, errW_some] <;> rfl), by repeat (first | (with_reducible first | exact HB.out | apply below_alloc | apply pw_below_drewN | apply below_drew1 | refine below_set ?_ GE146.out | refine below_set ?_ GE148.out) | exact HB.out)⟩
          · replace c7 := Bool.eq_false_iff.mpr c7
            subst c7
            have H1 : (some (x3_1, 0)) = some (r1, r2) := by rw [if_neg (show ¬ (false = true) by decide)] at H; exact H
            clear H
            have H := H1
            clear H1
            simp only [Option.some.injEq, Prod.mk.injEq] at H
            obtain ⟨rfl, rfl⟩ := H
            go_wp2_with (first | ((with_reducible refine gate_callee (f := 27) rfl ?_); refine goesL_ (some 10) rfl rfl Try.func27 (by kernel_rfl) rfl #[.int .i64 x3_1] rfl (by (try simp only [List.map_toArray, List.map_cons, List.map_nil]); first | done | rfl | (simp only [List.length_drop, List.length_take]; rfl)) ?_; (with_reducible refine (act_number.calls x3_1 t147 _ A4.out).mono ?_); rintro e w13 ⟨rfl, hb⟩; refine ⟨_, rfl, ?_⟩; have n0_ := Aside0.mk (blk_below (g := gb146) (o := .cells #[.int .i64 Z0, .int .i64 Z1] 46 (0, 0)) (by (with_reducible repeat (first | refine blk_drewN ?_ _ | refine blk_drew ?_ | refine blk_alloc ?_ _)); exact BK146.out) hb); have n1_ := Aside0.mk (below_step (by repeat (first | (with_reducible first | exact HB.out | apply below_alloc | apply pw_below_drewN | apply below_drew1 | refine below_set ?_ GE146.out) | exact HB.out)) hb); clear BK146; clear HB; have BK146 := n0_; have HB := n1_; clear n0_ n1_; (try clear hb); (try clear hb2); (try clear hk); (try clear hi)) | ((with_reducible refine gate_dst (N := 4) rfl ?_); refine box_event ?hg (N := 4) ?hd (cs := #[.int .i64 0, .int .i64 0]) (t := 46) ?hr ?_; (case hd => rfl); (case hg => rfl); (case hr => first | (go_simp; done) | (go_simp; rfl)); intro gb148 hg w14 hbox hb; have n0_ := Aside0.mk (blk_below (g := gb146) (o := .cells #[.int .i64 Z0, .int .i64 Z1] 46 (0, 0)) (by (with_reducible repeat (first | refine blk_drewN ?_ _ | refine blk_drew ?_ | refine blk_alloc ?_ _)); exact BK146.out) hb); have n1_ := Aside0.mk (below_step (by repeat (first | (with_reducible first | exact HB.out | apply below_alloc | apply pw_below_drewN | apply below_drew1 | refine below_set ?_ GE146.out) | exact HB.out)) hb); have n2_ := Aside0.mk (hbox); have n3_ := Aside0.mk ((by rw [hg]; exact (below_size (by repeat (first | (with_reducible first | exact HB.out | apply below_alloc | apply pw_below_drewN | apply below_drew1 | refine below_set ?_ GE146.out) | exact HB.out))) : w.heap.size ≤ gb148)); have n4_ := Aside0.mk ((by rw [hg]; exact (below_size (by repeat (first | (with_reducible first | exact HB.out | apply below_alloc | apply pw_below_drewN | apply below_drew1 | refine below_set ?_ GE146.out) | exact HB.out))) : w.heap.size ≤ gb148)); have n5_ := Aside0.mk ((by rw [hg]; exact Nat.ne_of_lt (blk_lt (g := gb146) (o := .cells #[.int .i64 Z0, .int .i64 Z1] 46 (0, 0)) (by (with_reducible repeat (first | refine blk_drewN ?_ _ | refine blk_drew ?_ | refine blk_alloc ?_ _)); exact BK146.out)) : gb146 ≠ gb148)); have n6_ := Aside0.mk ((by rw [hg]; exact Nat.ne_of_gt (blk_lt (g := gb146) (o := .cells #[.int .i64 Z0, .int .i64 Z1] 46 (0, 0)) (by (with_reducible repeat (first | refine blk_drewN ?_ _ | refine blk_drew ?_ | refine blk_alloc ?_ _)); exact BK146.out)) : gb148 ≠ gb146)); clear BK146; clear HB; have BK146 := n0_; have HB := n1_; have BK148 := n2_; have GW148 := n3_; have GE148 := n4_; have NB146_148 := n5_; have NB148_146 := n6_; clear n0_ n1_ n2_ n3_ n4_ n5_ n6_; clear hb hbox hg; have hnb15 := NB148_146.out; have hnc15 := NB146_148.out; have hcz16_0 : w14.cell? ⟨gb148, 0, none⟩ = some (.int .i64 0) := (blk_cell BK148.out 0).trans rfl; have hcz16_1 : w14.cell? ⟨gb148, 1, none⟩ = some (.int .i64 0) := (blk_cell BK148.out 1).trans rfl; have hfz16_0 := blk_frozen BK148.out) | ((with_reducible refine gate_callee (f := 28) rfl ?_); refine goesL_ (some 17) rfl rfl Try.func28 (by kernel_rfl) rfl #[.int .i64 x3_1] rfl (by (try simp only [List.map_toArray, List.map_cons, List.map_nil]); first | done | rfl | (simp only [List.length_drop, List.length_take]; rfl)) ?_; (with_reducible refine (act_bears.calls x3_1 false _ A6.out).mono ?_); rintro e w' ⟨rfl, ⟨nd, rfl⟩⟩; refine ⟨_, rfl, ?_⟩; have hcz17_0 : w14.cell? ⟨gb146, 0, none⟩ = some (.int .i64 Z0) := (blk_cell BK146.out 0).trans rfl; have hcz17_1 : w14.cell? ⟨gb146, 1, none⟩ = some (.int .i64 Z1) := (blk_cell BK146.out 1).trans rfl; have hfz17_0 := blk_frozen BK146.out))
            refine bodyPost_ret (results_cell_row rfl _ _ gb146 46 #[.int .i64 x3_1, .int .i64 0] (0, 0) _ rfl (by (with_reducible repeat (first | refine blk_drewN ?_ _ | refine blk_drew ?_ | refine blk_alloc ?_ _)); refine blk_put (cs := #[.int .i64 x3_1, .int .i64 Z1]) ?_ 1 _ rfl; (with_reducible repeat (first | refine blk_drewN ?_ _ | refine blk_drew ?_ | refine blk_alloc ?_ _)); refine blk_put (cs := #[.int .i64 Z0, .int .i64 Z1]) ?_ 0 _ rfl; (with_reducible repeat (first | refine blk_drewN ?_ _ | refine blk_drew ?_ | refine blk_alloc ?_ _)); refine blk_far ?_ NB146_148.out _; (with_reducible repeat (first | refine blk_drewN ?_ _ | refine blk_drew ?_ | refine blk_alloc ?_ _)); refine blk_far ?_ NB146_148.out _; (with_reducible repeat (first | refine blk_drewN ?_ _ | refine blk_drew ?_ | refine blk_alloc ?_ _)); exact BK146.out) Try.underlying46 rfl (by kernel_rfl)) rfl ?_
            exact ⟨by first | rfl | (simp [errW_none, errW_some] <;> rfl) | (simp [*, errW_none, errW_some] <;> rfl), by repeat (first | (with_reducible first | exact HB.out | apply below_alloc | apply pw_below_drewN | apply below_drew1 | refine below_set ?_ GE146.out | refine below_set ?_ GE148.out) | exact HB.out)⟩
        · rw [if_neg c5] at H
          have c5b0 : (t147 == (Go.bits .andNot .u32 a0 65535)) = false := beq_eq_false_iff_ne.mpr c5
          have c5b1 : (t147 != (Go.bits .andNot .u32 a0 65535)) = true := bne_iff_ne.mpr c5
          have H' := Aside0.mk H
          clear H
          go_wp2_with (first | ((with_reducible refine gate_callee (f := 27) rfl ?_); refine goesL_ (some 10) rfl rfl Try.func27 (by kernel_rfl) rfl #[.int .i64 x3_1] rfl (by (try simp only [List.map_toArray, List.map_cons, List.map_nil]); first | done | rfl | (simp only [List.length_drop, List.length_take]; rfl)) ?_; (with_reducible refine (act_number.calls x3_1 t147 _ A4.out).mono ?_); rintro e w18 ⟨rfl, hb⟩; refine ⟨_, rfl, ?_⟩; have n0_ := Aside0.mk (blk_below (g := gb146) (o := .cells #[.int .i64 Z0, .int .i64 Z1] 46 (0, 0)) (by (with_reducible repeat (first | refine blk_drewN ?_ _ | refine blk_drew ?_ | refine blk_alloc ?_ _)); exact BK146.out) hb); have n1_ := Aside0.mk (below_step (by repeat (first | (with_reducible first | exact HB.out | apply below_alloc | apply pw_below_drewN | apply below_drew1 | refine below_set ?_ GE146.out) | exact HB.out)) hb); clear BK146; clear HB; have BK146 := n0_; have HB := n1_; clear n0_ n1_; (try clear hb); (try clear hb2); (try clear hk); (try clear hi)))
          go_roundg k1
          case measure => have := HK1.out; omega
          case rel => exact ⟨(wrap64 (x3_1 + 1)), (Z0), (Z1), (by first | rfl | (simp; done) | (simp [*]; done)), H', ⟨by have := HK1.out; omega⟩, ⟨by (with_reducible repeat (first | refine blk_drewN ?_ _ | refine blk_drew ?_ | refine blk_alloc ?_ _)); exact BK146.out⟩, ⟨by repeat (first | (with_reducible first | exact HB.out | apply below_alloc | apply pw_below_drewN | apply below_drew1 | refine below_set ?_ GE146.out) | exact HB.out)⟩⟩
      · rw [if_neg c3] at H
        have c3b0 : decide (x3_1 ≤ 8) = false := decide_eq_false c3
        clear c3
        simp only [Option.some.injEq, Prod.mk.injEq] at H
        obtain ⟨rfl, rfl⟩ := H
        have hcz19_0 : wr.cell? ⟨gb146, 0, none⟩ = some (.int .i64 Z0) := (blk_cell BK146.out 0).trans rfl
        have hcz19_1 : wr.cell? ⟨gb146, 1, none⟩ = some (.int .i64 Z1) := (blk_cell BK146.out 1).trans rfl
        have hfz19_0 := blk_frozen BK146.out
        go_wp2
        refine bodyPost_ret (results_cell_row rfl _ _ gb146 46 #[.int .i64 1, .int .i64 0] (0, 0) _ rfl (by (with_reducible repeat (first | refine blk_drewN ?_ _ | refine blk_drew ?_ | refine blk_alloc ?_ _)); refine blk_put (cs := #[.int .i64 1, .int .i64 Z1]) ?_ 1 _ rfl; (with_reducible repeat (first | refine blk_drewN ?_ _ | refine blk_drew ?_ | refine blk_alloc ?_ _)); refine blk_put (cs := #[.int .i64 Z0, .int .i64 Z1]) ?_ 0 _ rfl; (with_reducible repeat (first | refine blk_drewN ?_ _ | refine blk_drew ?_ | refine blk_alloc ?_ _)); exact BK146.out) Try.underlying46 rfl (by kernel_rfl)) rfl ?_
        exact ⟨by first | rfl | (simp [errW_none, errW_some] <;> rfl) | (simp [*, errW_none, errW_some] <;> rfl), by repeat (first | (with_reducible first | exact HB.out | apply below_alloc | apply pw_below_drewN | apply below_drew1 | refine below_set ?_ GE146.out) | exact HB.out)⟩
def act_Most.l0 : Nat → Int → List Int → Int → Int → Option (Int)
  | 0, _, _, _, _ => none
  | k + 1, x3, x7, x8, x9 => if x9 < x8 then (if 0 ≤ x9 then (if x9 < (x7.length : Int) then (if x9 = 0 then (act_Most.l0 k (rd x7 x9) x7 x8 (wrap64 (x9 + 1))) else ((act_Of.f k (rd x7 x9)).bind fun bt152 => ((act_Of.f k x3).bind fun bt154 => (if bt152.1 < bt154.1 then (act_Most.l0 k (rd x7 x9) x7 x8 (wrap64 (x9 + 1))) else (act_Most.l0 k x3 x7 x8 (wrap64 (x9 + 1))))))) else (none)) else (none)) else (some x3)
def act_Most.f (k : Nat) (l0 : List Int) : Option (Int) := (act_number.f 8).bind fun t150 => (act_Most.l0 k t150 l0 (l0.length : Int) 0)
set_option maxHeartbeats 8000000 in
set_option maxRecDepth 100000 in
theorem act_Most.calls (k : Nat) (A0 : Option Addr) (c0 : Nat) (l0 : List Int) (r : Int) (w : World) (hr0 : Kd.C (Kd.int .u32) w A0 l0.length l0) (hc0 : l0.length ≤ c0) (h : act_Most.f k l0 = some r) :
    Calls Try.prog 24 #[.slice A0 l0.length c0] w fun e w' => e = .returned (.int .u32 r) ∧ Below w.heap.size w w' := by
  have hu46 := Try.underlying46
  have hfd46 := fun (cs_ : Array Value) (j_ : Nat) (w_ : World) => Mine.run_field (P := Try.prog) Try.underlying46 cs_ j_ w_
  have HR0 := Aside0.mk hr0
  have HC0 := Aside0.mk hc0
  clear hr0 hc0
  have HB := Aside0.mk (Below.refl w.heap.size w)
  have H : ((act_number.f 8).bind fun t150 => (act_Most.l0 k t150 l0 (l0.length : Int) 0)) = some r := h
  clear h
  replace H := Option.bind_eq_some_iff.mp H
  obtain ⟨t150, A20, H⟩ := H
  replace H : (act_Most.l0 k t150 l0 (l0.length : Int) 0) = some r := H
  have A2 := Aside0.mk A20
  clear A20
  have H' := Aside0.mk H
  clear H
  go_enter Try.func24, Try.ntmps24
  go_wp2_with (first | ((with_reducible refine gate_callee (f := 27) rfl ?_); refine goesL_ (some 6) rfl rfl Try.func27 (by kernel_rfl) rfl #[.int .i64 8] rfl (by (try simp only [List.map_toArray, List.map_cons, List.map_nil]); first | done | rfl | (simp only [List.length_drop, List.length_take]; rfl)) ?_; (with_reducible refine (act_number.calls 8 t150 _ A2.out).mono ?_); rintro e w3 ⟨rfl, hb⟩; refine ⟨_, rfl, ?_⟩; have n0_ := Aside0.mk (below_step (by repeat (first | (with_reducible first | exact HB.out | apply below_alloc | apply pw_below_drewN | apply below_drew1) | exact HB.out)) hb); clear HB; have HB := n0_; clear n0_; (try clear hb); (try clear hb2); (try clear hk); (try clear hi)))
  go_loopg [3, 9] k (fun kq v3 v9 w' => ∃ (x3_1 : Int) (x9_1 : Int), v3 = .int .u32 x3_1 ∧ v9 = .int .i64 x9_1 ∧ Aside0 (act_Most.l0 kq x3_1 l0 (l0.length : Int) x9_1 = some r) ∧ Aside0 (kq ≤ k) ∧ Aside0 (Below w.heap.size w w'))
  case atStart => exact ⟨(t150), (0), (by first | rfl | (simp; done) | (simp [*]; done)), (by first | rfl | (simp; done) | (simp [*]; done)), H', ⟨Nat.le_refl _⟩, ⟨by repeat (first | (with_reducible first | exact HB.out | apply below_alloc | apply pw_below_drewN | apply below_drew1) | exact HB.out)⟩⟩
  case round =>
    clear H'
    try clear c2
    try clear p2
    obtain ⟨x3_1, x9_1, rfl, rfl, HA, HK1, HB⟩ := hrel
    cases gk with
    | zero => exact absurd HA.out (by simp [act_Most.l0])
    | succ k1 =>
      have H := HA.out
      clear HA
      simp only [act_Most.l0] at H
      by_cases c4 : x9_1 < (l0.length : Int)
      · rw [if_pos c4] at H
        have c4b0 : decide (x9_1 < (l0.length : Int)) = true := decide_eq_true c4
        clear c4
        by_cases c5 : 0 ≤ x9_1
        · rw [if_pos c5] at H
          have c5b0 : decide (0 ≤ x9_1) = true := decide_eq_true c5
          clear c5
          by_cases c6 : x9_1 < (l0.length : Int)
          · rw [if_pos c6] at H
            have c6b0 : decide (x9_1 < (l0.length : Int)) = true := decide_eq_true c6
            clear c6
            by_cases c7 : x9_1 = 0
            · rw [if_pos c7] at H
              have c7b0 : (x9_1 == 0) = true := beq_iff_eq.mpr c7
              have c7b1 : (x9_1 != 0) = false := bne_eq_false_iff_eq.mpr c7
              clear c7
              have H' := Aside0.mk H
              clear H
              have p151 : 0 ≤ (x9_1 : Int) := of_decide_eq_true (by first | (with_reducible assumption) | assumption)
              have q151 : x9_1 < (l0.length : Int) := of_decide_eq_true (by first | (with_reducible assumption) | assumption)
              obtain ⟨ad151, e151, hx151_0⟩ := Kd.at_int HR0.out x9_1 p151 q151
              cases e151
              replace hx151_0 := (HB.out.cell (World.block_lt_of_cell? w _ hx151_0)).trans hx151_0
              replace p151 := eq_true p151
              replace q151 := eq_true q151
              go_wp2
              go_roundg k1
              case measure => have := HK1.out; omega
              case rel => exact ⟨(rd l0 x9_1), (wrap64 (x9_1 + 1)), (by first | rfl | (simp; done) | (simp [*]; done)), (by first | rfl | (simp; done) | (simp [*]; done)), H', ⟨by have := HK1.out; omega⟩, ⟨by repeat (first | (with_reducible first | exact HB.out | apply below_alloc | apply pw_below_drewN | apply below_drew1) | exact HB.out)⟩⟩
            · rw [if_neg c7] at H
              have c7b0 : (x9_1 == 0) = false := beq_eq_false_iff_ne.mpr c7
              have c7b1 : (x9_1 != 0) = true := bne_iff_ne.mpr c7
              replace H := Option.bind_eq_some_iff.mp H
              obtain ⟨⟨t152, t153⟩, A80, H⟩ := H
              replace H : ((act_Of.f k1 x3_1).bind fun bt154 => (if t152 < bt154.1 then (act_Most.l0 k1 (rd l0 x9_1) l0 (l0.length : Int) (wrap64 (x9_1 + 1))) else (act_Most.l0 k1 x3_1 l0 (l0.length : Int) (wrap64 (x9_1 + 1))))) = some r := H
              have A8 := Aside0.mk A80
              clear A80
              replace H := Option.bind_eq_some_iff.mp H
              obtain ⟨⟨t154, t155⟩, A90, H⟩ := H
              replace H : (if t152 < t154 then (act_Most.l0 k1 (rd l0 x9_1) l0 (l0.length : Int) (wrap64 (x9_1 + 1))) else (act_Most.l0 k1 x3_1 l0 (l0.length : Int) (wrap64 (x9_1 + 1)))) = some r := H
              have A9 := Aside0.mk A90
              clear A90
              by_cases c10 : t152 < t154
              · rw [if_pos c10] at H
                have c10b0 : decide (t152 < t154) = true := decide_eq_true c10
                clear c10
                have H' := Aside0.mk H
                clear H
                have p151 : 0 ≤ (x9_1 : Int) := of_decide_eq_true (by first | (with_reducible assumption) | assumption)
                have q151 : x9_1 < (l0.length : Int) := of_decide_eq_true (by first | (with_reducible assumption) | assumption)
                obtain ⟨ad151, e151, hx151_0⟩ := Kd.at_int HR0.out x9_1 p151 q151
                cases e151
                replace hx151_0 := (HB.out.cell (World.block_lt_of_cell? w _ hx151_0)).trans hx151_0
                replace p151 := eq_true p151
                replace q151 := eq_true q151
                go_wp2_with (first | (go_at_call 18; (with_reducible refine (act_Of.calls k1 (rd l0 x9_1) t152 t153 _ A8.out).mono ?_); rintro e w11 ⟨rfl, hb⟩; have n0_ := Aside0.mk (below_step (by repeat (first | (with_reducible first | exact HB.out | apply below_alloc | apply pw_below_drewN | apply below_drew1) | exact HB.out)) hb); clear HB; have HB := n0_; clear n0_; (try clear hb); (try clear hb2); (try clear hk); (try clear hi)) | (go_at_call 18; (with_reducible refine (act_Of.calls k1 x3_1 t154 t155 _ A9.out).mono ?_); rintro e w12 ⟨rfl, hb⟩; have n0_ := Aside0.mk (below_step (by repeat (first | (with_reducible first | exact HB.out | apply below_alloc | apply pw_below_drewN | apply below_drew1) | exact HB.out)) hb); clear HB; have HB := n0_; clear n0_; (try clear hb); (try clear hb2); (try clear hk); (try clear hi)))
                go_roundg k1
                case measure => have := HK1.out; omega
                case rel => exact ⟨(rd l0 x9_1), (wrap64 (x9_1 + 1)), (by first | rfl | (simp; done) | (simp [*]; done)), (by first | rfl | (simp; done) | (simp [*]; done)), H', ⟨by have := HK1.out; omega⟩, ⟨by repeat (first | (with_reducible first | exact HB.out | apply below_alloc | apply pw_below_drewN | apply below_drew1) | exact HB.out)⟩⟩
              · rw [if_neg c10] at H
                have c10b0 : decide (t152 < t154) = false := decide_eq_false c10
                clear c10
                have H' := Aside0.mk H
                clear H
                have p151 : 0 ≤ (x9_1 : Int) := of_decide_eq_true (by first | (with_reducible assumption) | assumption)
                have q151 : x9_1 < (l0.length : Int) := of_decide_eq_true (by first | (with_reducible assumption) | assumption)
                obtain ⟨ad151, e151, hx151_0⟩ := Kd.at_int HR0.out x9_1 p151 q151
                cases e151
                replace hx151_0 := (HB.out.cell (World.block_lt_of_cell? w _ hx151_0)).trans hx151_0
                replace p151 := eq_true p151
                replace q151 := eq_true q151
                go_wp2_with (first | (go_at_call 18; (with_reducible refine (act_Of.calls k1 (rd l0 x9_1) t152 t153 _ A8.out).mono ?_); rintro e w13 ⟨rfl, hb⟩; have n0_ := Aside0.mk (below_step (by repeat (first | (with_reducible first | exact HB.out | apply below_alloc | apply pw_below_drewN | apply below_drew1) | exact HB.out)) hb); clear HB; have HB := n0_; clear n0_; (try clear hb); (try clear hb2); (try clear hk); (try clear hi)) | (go_at_call 18; (with_reducible refine (act_Of.calls k1 x3_1 t154 t155 _ A9.out).mono ?_); rintro e w14 ⟨rfl, hb⟩; have n0_ := Aside0.mk (below_step (by repeat (first | (with_reducible first | exact HB.out | apply below_alloc | apply pw_below_drewN | apply below_drew1) | exact HB.out)) hb); clear HB; have HB := n0_; clear n0_; (try clear hb); (try clear hb2); (try clear hk); (try clear hi)))
                go_roundg k1
                case measure => have := HK1.out; omega
                case rel => exact ⟨(x3_1), (wrap64 (x9_1 + 1)), (by first | rfl | (simp; done) | (simp [*]; done)), (by first | rfl | (simp; done) | (simp [*]; done)), H', ⟨by have := HK1.out; omega⟩, ⟨by repeat (first | (with_reducible first | exact HB.out | apply below_alloc | apply pw_below_drewN | apply below_drew1) | exact HB.out)⟩⟩
          · rw [if_neg c6] at H
            exact absurd H (by simp)
        · rw [if_neg c5] at H
          exact absurd H (by simp)
      · rw [if_neg c4] at H
        have c4b0 : decide (x9_1 < (l0.length : Int)) = false := decide_eq_false c4
        clear c4
        obtain rfl := Option.some.inj H
        go_wp2
        go_ret
        exact ⟨by first | rfl | (simp [errW_none, errW_some] <;> rfl) | (simp [*, errW_none, errW_some] <;> rfl), by repeat (first | (with_reducible first | exact HB.out | apply below_alloc | apply pw_below_drewN | apply below_drew1) | exact HB.out)⟩
-- HAND rounds=True making=True
/-- Where an answer stands first, counted down from p. -/
def stFind (m : Int) : List Int → Int → Int
  | [], _ => -1
  | v :: r, p => if v = m then p else stFind m r (p - 1)
/-- The answers of the filters from the j-th on, the newest first. -/
def stVals (val : List S53 → Int) (L : List (List S53)) : List Int := (L.map val).reverse
theorem stVals_drop (val : List S53 → Int) (L : List (List S53)) (j : Nat) (h : j < L.length) : stVals val (L.drop j) = stVals val (L.drop (j + 1)) ++ [val (L.getD j [])] := by
  unfold stVals
  rw [List.drop_eq_getElem_cons h, List.map_cons, List.reverse_cons, List.getD_eq_getElem?_getD, List.getElem?_eq_getElem h]
  rfl
theorem stVals_len (val : List S53 → Int) (L : List (List S53)) : (stVals val L).length = L.length := by simp [stVals]
structure RunK (w0 w : World) (gd : Nat) (D : Array Value) (v : Value) (vs : List Int) : Prop where
  bd : w.heap[gd]? = some (.cells D 27 (0, 0))
  row : Kd.R (Kd.int .u32) 23 w w0.heap.size (fun k => k ≠ gd) v vs
  below : Below w0.heap.size w0 w
set_option maxHeartbeats 8000000 in
set_option maxRecDepth 100000 in
theorem stack_Stack_Run.calls (k : Nat) (g : Nat) (L : List (List S53)) (cost : Int) (d0 d1 d2 d3 d4 d5 d6 d7 d8 : Int) (val : List S53 → Int) (m : Int) (ok : Nat → Prop) (w : World) (hs : SkS ok w g L cost) (hv : ∀ l ∈ L, ∃ n e, vm_Run.f k l d0 d1 d2 d3 d4 d5 d6 d7 d8 = some (val l, n, e)) (hm : act_Most.f k (stVals val L) = some m) (hL : L.length ≤ 32) :
    Calls Try.prog 15 #[.pointer (some ⟨g, 0, none⟩), .agg #[.int .u32 d0, .int .u32 d1, .int .u64 d2, .int .u64 d3, .int .u64 d4, .int .u64 d5, .int .u64 d6, .int .u64 d7, .int .u64 d8]] w fun e w' => e = .returned (.tuple #[.int .u32 m, .int .i64 (stFind m (stVals val L) ((L.length : Int) - 1))]) ∧ Below w.heap.size w w' := by
  have HS := Aside0.mk hs
  have HV := Aside0.mk hv
  have HM := Aside0.mk hm
  obtain ⟨A, c, hb, hl, hR, hC⟩ := hs.open_
  have z0 := (blk_cell hb 0).trans (show _ = some (.slice A L.length c : Value) from rfl)
  have HL := Aside0.mk hl
  have HCr := Aside0.mk hC
  have hu27_ := Try.underlying27
  clear hs hv hm hb hl hR hC
  go_enter Try.func15, Try.ntmps15
  go_wp2_with (first | ((with_reducible refine gate_dst (N := 3) rfl ?_); refine box_event ?hg (N := 3) ?hd (cs := #[.int .u32 d0, .int .u32 d1, .int .u64 d2, .int .u64 d3, .int .u64 d4, .int .u64 d5, .int .u64 d6, .int .u64 d7, .int .u64 d8]) (t := 27) ?hr ?_; (case hd => rfl); (case hg => rfl); (case hr => first | (go_simp; done) | (go_simp; rfl)); intro gd hg w1 hbox hb; have GD := Aside0.mk hg; have B1 := Aside0.mk hbox; have W1 := Aside0.mk hb; have z1_ := z0; have z1 := pw_cell_below hb z0; clear hg hbox hb))
  go_loopg [6, 7] (L.length + 1) (fun kq v6 v7 w' => ∃ (x : Int) (j : Nat), v7 = .int .i64 x ∧ Aside0 (x = (j : Int) - 1) ∧ Aside0 (j ≤ L.length) ∧ Aside0 (j < kq) ∧ Aside0 (RunK w w' gd #[.int .u32 d0, .int .u32 d1, .int .u64 d2, .int .u64 d3, .int .u64 d4, .int .u64 d5, .int .u64 d6, .int .u64 d7, .int .u64 d8] v6 (stVals val (L.drop j))))
  case atStart => exact ⟨(L.length : Int) - 1, L.length, by first | rfl | simp, ⟨rfl⟩, ⟨Nat.le_refl _⟩, ⟨Nat.lt_succ_self _⟩, ⟨⟨B1.out, by rw [List.drop_length]; exact Kd.R_nil _ _ _ _ _, W1.out⟩⟩⟩
  case round =>
    clear B1 GD
    obtain ⟨x, j, rfl, hx, hj, hjk, hR⟩ := hrel
    obtain ⟨k1, rfl⟩ : ∃ k1, gk = k1 + 1 := ⟨gk - 1, by have := hjk.out; omega⟩
    cases j with
    | zero =>
      have hx' : x = -1 := by have := hx.out; omega
      subst hx'
      have HB := Aside0.mk hR.out.below
      obtain ⟨A6, c6, e6, hl6, hC6⟩ := Kd.R_reads hR.out.row
      rw [List.drop_zero] at e6 hl6 hC6
      subst e6
      have hvl : (stVals val L).length = L.length := stVals_len val L
      obtain ⟨vs, hvs⟩ : ∃ vs, vs = stVals val L := ⟨_, rfl⟩
      have HVs := Aside0.mk hvs
      rw [← hvs] at hl6 hC6 hvl ⊢
      have HM' := Aside0.mk (show act_Most.f k vs = some m by rw [HVs.out]; exact HM.out)
      have Hl6 := Aside0.mk hl6
      have HC6 := Aside0.mk hC6
      have HVl := Aside0.mk hvl
      clear hl6 hC6 hvl hvs
      go_wp2_with (first | (go_at_call 24; (refine (act_Most.calls k A6 c6 vs m _ HC6.out Hl6.out HM'.out).mono ?_); rintro e w2 ⟨rfl, hb2⟩; have HB2 := Aside0.mk hb2; clear hb2))
      have z2 := pw_cell_below HB2.out (pw_cell_below HB.out z1_)
      have HC2 := Aside0.mk (Kd.C_below HC6.out HB2.out)
      have HN := Aside0.mk (show stFind m (vs.drop 0) ((L.length : Int) - 1 - (0 : Nat)) = stFind m vs ((L.length : Int) - 1) by rw [List.drop_zero]; congr 1; omega)
      go_loopg [45] (vs.length + 1) (fun kq v45 w' => ∃ (i : Int) (j : Nat), v45 = .int .i64 i ∧ Aside0 (i = (j : Int)) ∧ Aside0 (j ≤ vs.length) ∧ Aside0 (vs.length - j < kq) ∧ w' = w2 ∧ Aside0 (stFind m (vs.drop j) ((L.length : Int) - 1 - j) = stFind m vs ((L.length : Int) - 1)))
      case atStart => exact ⟨0, 0, rfl, ⟨rfl⟩, ⟨Nat.zero_le _⟩, ⟨by omega⟩, rfl, HN⟩
      case round =>
        clear HN
        obtain ⟨i, j, rfl, hi, hj, hk2, rfl, HF⟩ := hrel
        obtain ⟨k2, rfl⟩ : ∃ k2, gk = k2 + 1 := ⟨gk - 1, by have := hk2.out; omega⟩
        by_cases hlt : i < (vs.length : Int)
        · have b1 : decide (i < (vs.length : Int)) = true := decide_eq_true hlt
          have p1 : 0 ≤ i := by have := hi.out; omega
          obtain ⟨ad6, e6, xi⟩ := Kd.at_int HC2.out i p1 hlt
          cases e6
          have hjl : j < vs.length := by have := hi.out; omega
          have hrd : rd vs i = vs[j] := by rw [hi.out]; simp [rd, List.getElem?_eq_getElem hjl]
          have hdr := List.drop_eq_getElem_cons hjl
          have HF' := HF.out
          rw [hdr, ← hrd] at HF'
          have HRest := Aside0.mk HF'
          clear hrd hdr HF' HF
          by_cases hm : rd vs i = m
          · have b2 : (rd vs i == m) = true := beq_iff_eq.2 hm
            have HF2 := HRest.out
            rw [stFind, if_pos hm] at HF2
            have HF3 := Aside0.mk HF2
            clear HF2 hm
            go_wp2
            have z2_ : wr.drew.cell? ⟨g, 0, none⟩ = some (.slice A L.length c) := z2
            refine start_ (n := 11) (S := fun w' => w'.cell? ⟨g, 0, none⟩ = some (.slice A L.length c)) (ds := []) #[false, false, false, false, false, false, false, false, false, false, false] (by kernel_rfl) rfl rfl (z2_) (fun hHeld => ?_)
            refine Mine.pS 0 (some 53) ?_; refine Mine.pS 1 (some 54) ?_; refine Mine.pS 2 (some 55) ?_; refine Mine.pS 3 (some 56) ?_; refine Mine.pS 7 (some 60) ?_; refine Mine.pS 9 (some 4) ?_; refine Mine.tS 4 (some 57) hHeld ?_; refine Mine.pS 5 (some 58) ?_; refine Mine.pS 6 (some 59) ?_; refine Mine.pS 8 (some 61) ?_; refine Mine.pS 10 (some 5) ?_
            refine done_ (by kernel_rfl) ?_
            go_wp2
            go_ret2
            refine ⟨?_, below_step (below_step HB.out HB2.out) (below_drew (Below.refl _ _))⟩
            show Ending.returned (.tuple #[.int .u32 m, .int .i64 (wrap64 (wrap64 ((L.length : Int) - 1) - i))]) = _
            rw [← HVs.out, ← HF3.out, show wrap64 ((L.length : Int) - 1) = (L.length : Int) - 1 by (unfold wrap64; omega), show wrap64 ((L.length : Int) - 1 - i) = (L.length : Int) - 1 - j by (have := hi.out; have := HVl.out; unfold wrap64; omega)]
          · have b2 : (rd vs i == m) = false := beq_eq_false_iff_ne.2 hm
            have HF2 := HRest.out
            rw [stFind, if_neg hm] at HF2
            have HF3 := Aside0.mk HF2
            clear HF2 hm
            go_wp2
            go_roundg k2
            case measure => omega
            case rel => exact ⟨i + 1, j + 1, by rw [show wrap64 (i + 1) = i + 1 by (have := HVl.out; unfold wrap64; omega)], ⟨by have := hi.out; omega⟩, ⟨hjl⟩, ⟨by have := hk2.out; omega⟩, rfl, ⟨by rw [← HF3.out]; congr 1; omega⟩⟩
        · have b1 : decide (i < (vs.length : Int)) = false := decide_eq_false hlt
          have hF := HF.out
          rw [List.drop_of_length_le (by have := hi.out; omega), stFind] at hF
          have HF2 := Aside0.mk hF
          clear hF
          go_wp2
          go_ret2
          exact ⟨by show Ending.returned (.tuple #[.int .u32 m, .int .i64 (-1)]) = _; rw [← HVs.out, ← HF2.out], below_step HB.out HB2.out⟩
    | succ j =>
      have q0 : decide (0 ≤ x) = true := decide_eq_true (by have := hx.out; omega)
      have p1 : 0 ≤ x := by have := hx.out; omega
      have q1 : x < (L.length : Int) := by have := hx.out; have := hj.out; omega
      have zr := pw_cell_below hR.out.below z1_
      obtain ⟨ad, A', c', eA, zi, hlc, hCr⟩ := Mine.C_row (Kd.C_below HCr.out hR.out.below) x p1 q1
      cases eA
      obtain ⟨n_, e_, hval⟩ := HV.out (L.getD x.toNat []) (by rw [List.getD_eq_getElem?_getD, List.getElem?_eq_getElem (by omega)]; exact List.getElem_mem _)
      obtain ⟨li, hli⟩ : ∃ li, li = L.getD x.toNat [] := ⟨_, rfl⟩
      rw [← hli] at zi hlc hCr hval
      have HLi := Aside0.mk hli
      clear hli
      have HLc := Aside0.mk hlc
      have HCi := Aside0.mk hCr
      have HVl := Aside0.mk hval
      have HGd := Aside0.mk hR.out.bd
      clear hlc hCr hval
      go_wp2
      have zr_ : wr.drew.cell? ⟨g, 0, none⟩ = some (.slice (some ad) L.length c) := zr
      have zi_ : wr.drew.cell? (ad.add x.toNat) = some (.slice A' li.length c') := zi
      refine start_ (n := 16) (S := fun w' => w'.cell? ⟨g, 0, none⟩ = some (.slice (some ad) L.length c) ∧ w'.cell? (ad.add x.toNat) = some (.slice A' li.length c') ∧ w'.heap[gd]? = some (.cells #[.int .u32 d0, .int .u32 d1, .int .u64 d2, .int .u64 d3, .int .u64 d4, .int .u64 d5, .int .u64 d6, .int .u64 d7, .int .u64 d8] 27 (0, 0))) (ds := []) #[false, false, false, false, false, false, false, false, false, false, false, false, false, false, false, false] (by kernel_rfl) rfl rfl ⟨zr_, zi_, HGd.out⟩ (fun hHeld => ?_)
      refine Mine.pS 0 (some 25) ?_; refine Mine.pS 1 (some 26) ?_; refine Mine.pS 2 (some 27) ?_; refine Mine.pS 4 (some 29) ?_; refine Mine.tS 3 (some 28) hHeld ?_; refine Mine.pS 5 (some 30) ?_; refine Mine.tS 6 (some 31) hHeld ?_
      refine take_ (i := 7) (N := some 32) (v := ?_) (a' := ?_) #[true, true, true, true, true, true, true, true, false, false, false, false, false, false, false, false] rfl rfl (by kernel_rfl) (fun _ _ _ h => h) (Or.inl ⟨by rfl, ?_⟩) hHeld ?_ ?_
      rotate_left
      · rintro w' ⟨s0, s1, s2⟩
        refine Eq.trans (Mine.op_load_row 27 (.tmp 3) (by rfl) gd (by rfl) 27 #[.int .u32 d0, .int .u32 d1, .int .u64 d2, .int .u64 d3, .int .u64 d4, .int .u64 d5, .int .u64 d6, .int .u64 d7, .int .u64 d8] (0, 0) _ s2 hu27_ rfl (by kernel_rfl)) ?_
        with_reducible rfl
      rotate_left
      · simp only [Act.put, List.setIfInBounds_toArray, List.set_cons_zero, List.set_cons_succ, i64_w, i32_w]
        rfl
      refine one_ (i := 8) (N := some 33) #[true, true, true, true, true, true, true, true, true, false, false, false, false, false, false, false] rfl rfl (by kernel_rfl) (by decide) (fun K hK => ?_)
      refine goes_ Try.func19 (by kernel_rfl) rfl #[.slice A' li.length c', .agg #[.int .u32 d0, .int .u32 d1, .int .u64 d2, .int .u64 d3, .int .u64 d4, .int .u64 d5, .int .u64 d6, .int .u64 d7, .int .u64 d8]] (by rfl) rfl rfl (by simp only [List.map_toArray, List.map_cons, List.map_nil]; rfl) ?_
      with_reducible refine (vm_Run.calls k A' c' li d0 d1 d2 d3 d4 d5 d6 d7 d8 _ n_ e_ wr.drew (Kd.C_drew HCi.out) HLc.out HVl.out).mono ?_
      rintro e w3 ⟨rfl, hb3⟩
      refine ⟨_, rfl, ?_⟩
      have HB3 := Aside0.mk hb3
      have yr := pw_cell_below hb3 zr_
      have yi := pw_cell_below hb3 zi_
      have HG3 := Aside0.mk (blk_below (w := wr.drew) HGd.out hb3)
      clear hb3
      refine hK.out _ _ ⟨yr, yi, HG3.out⟩ (fun hHeld => ?_)
      clear hK K
      refine norm_ (a' := ?_) ?_ ?_
      rotate_left
      · show Act.put _ (some 33) _ = _
        simp only [Act.put, List.setIfInBounds_toArray, List.set_cons_zero, List.set_cons_succ, i64_w, i32_w]
        rfl
      refine Mine.pS 9 (some 24) ?_; refine Mine.pS 10 (some 34) ?_; refine Mine.pS 11 (some 35) ?_; refine Mine.pS 12 (some 36) ?_; refine Mine.pS 13 (some 8) ?_; refine Mine.pS 14 (some 9) ?_; refine Mine.pS 15 (some 10) ?_
      refine done_ (by kernel_rfl) ?_
      go_wp2_with (first | ((with_reducible refine gate_builtin (b := .append) (xs := #[.tmp 37, .tmp 39]) rfl ?_); at_builtin; refine Kd.R_append (Kd.int .u32) (w0 := w) w.heap.size rfl (.tmp 37) (.tmp 39) 61 23 (.int .u32 0) 4 rfl Try.underlying61 info23 rfl (by decide) (by omega) u6 (stVals val (L.drop (j + 1))) (val li) [.int .u32 (val li)] (fun k => k ≠ gd) (fun _ => False) rfl rfl rfl (fun _ hk => hk.elim) (fun k hk e => by have := blk_lt HG3.out; omega) (Kd.R_below (Kd.R_drew hR.out.row) HB3.out) (below_step (below_drew hR.out.below) HB3.out) (below_step (below_drew hR.out.below) HB3.out).size (by rw [stVals_len, List.length_drop]; omega) ?_; intro v9 w9 ho hb hg hat; have HR9 := Aside0.mk (⟨blk_grown HG3.out hg (fun e => (hR.out.row.1 gd e.symm) rfl), ho, hb⟩ : RunK w w9 gd #[.int .u32 d0, .int .u32 d1, .int .u64 d2, .int .u64 d3, .int .u64 d4, .int .u64 d5, .int .u64 d6, .int .u64 d7, .int .u64 d8] v9 (stVals val (L.drop (j + 1)) ++ [val li])); clear ho hb hg hat))
      go_roundg k1
      case measure => omega
      case rel => exact ⟨x - 1, j, by first | rfl | simp, ⟨by have := hx.out; omega⟩, ⟨by have := hj.out; omega⟩, ⟨by have := hjk.out; omega⟩, ⟨by rw [stVals_drop val L j (by have := hj.out; omega), show L.getD j [] = li from by rw [HLi.out, show x.toNat = j by have := hx.out; omega]]; exact HR9.out⟩⟩
-- HAND rounds=True making=True
abbrev w15a : S53 := ⟨6, 0, 0, 2147418112⟩
abbrev w15b : S53 := ⟨6, 0, 0, 327681⟩
/-- What awake asks of the functions below. -/
def fairleadlaw15_awake.P (k : Nat) : Prop := check_Check.f k [w15a] = some (0, -1) ∧ check_Check.f k [w15b] = some (0, -1) ∧ (∃ n e, vm_Run.f k [w15a] 0 0 0 0 0 0 0 0 0 = some (2147418112, n, e)) ∧ (∃ n e, vm_Run.f k [w15b] 0 0 0 0 0 0 0 0 0 = some (327681, n, e)) ∧ act_Most.f k [327681, 2147418112] = some 327681
theorem sk_lit (W : World) (x : S53) : Kd.C k53 (W.alloc (.cells #[.int .u16 x.f0, .int .u8 x.f1, .int .u8 x.f2, .int .u32 x.f3] 53)) (some ⟨W.heap.size, 0, none⟩) [x].length [x] := by
  refine ⟨rfl, by simp, fun _ => ⟨_, rfl, fun j p hj => ?_⟩⟩
  cases j with
  | zero =>
    have : x = p := by simpa using hj
    subst this
    refine ⟨_, rfl, k53_mk _ x, fun i u hu => ?_⟩
    rw [Addr.add_lit, blk_cell (blk_new W _)]
    simpa using hu
  | succ j => simp at hj
theorem awake_one (k : Nat) (x : S53) (g : Nat) (L : List (List S53)) (cost : Int) (ok : Nat → Prop) (W : World) (hs : SkS ok W g L cost) (hck : check_Check.f k [x] = some (0, -1)) (hL : L.length < 32) (h0 : 0 ≤ cost) (h1 : cost ≤ 1000) :
    Calls Try.prog 10 #[.pointer (some ⟨g, 0, none⟩), .slice (some ⟨W.heap.size, 0, none⟩) 1 1] (W.alloc (.cells #[.int .u16 x.f0, .int .u8 x.f1, .int .u8 x.f2, .int .u32 x.f3] 53)) fun e w' => e = .returned (.int .i64 0) ∧ Mine.But (fun k => k = g) W w' ∧ SkS (fun k => ok k ∨ W.heap.size ≤ k) w' g (L ++ [[x]]) (cost + 5) := by
  have hb : Below W.heap.size W (W.alloc (.cells #[.int .u16 x.f0, .int .u8 x.f1, .int .u8 x.f2, .int .u32 x.f3] 53)) := below_alloc (Below.refl _ _) _
  refine (stack_Attach_ok k (some ⟨W.heap.size, 0, none⟩) 1 [x] g L cost (-1) ok _ (sk_lit W x) (Nat.le_refl _) (hs.below hb) hck (by simp) hL h0 (by omega) (by simp; omega)).mono ?_
  rintro e w' ⟨rfl, h2, h3⟩
  refine ⟨rfl, Mine.But.join (Mine.But.of_below hb) h2 (fun _ _ h => h), ?_⟩
  have e1 : cost + (([x] : List S53).length : Int) + 4 = cost + 5 := by simp; omega
  rw [e1] at h3
  exact h3.more (fun k _ h => h.imp id (fun h => Nat.le_trans hb.size h)) (fun h => by rcases h with h | h; exact hs.og h; have := hs.lt; omega)
theorem awake_run (k : Nat) (g : Nat) (ok : Nat → Prop) (w : World) (hs : SkS ok w g [[w15a], [w15b]] 10) (h : fairleadlaw15_awake.P k) :
    Calls Try.prog 15 #[.pointer (some ⟨g, 0, none⟩), .agg #[.int .u32 0, .int .u32 0, .int .u64 0, .int .u64 0, .int .u64 0, .int .u64 0, .int .u64 0, .int .u64 0, .int .u64 0]] w fun e w' => e = .returned (.tuple #[.int .u32 327681, .int .i64 1]) ∧ Below w.heap.size w w' := by
  obtain ⟨_, _, h3, h4, h5⟩ := h
  refine stack_Stack_Run.calls k g [[w15a], [w15b]] 10 0 0 0 0 0 0 0 0 0 (fun l => (l.getD 0 z53).f3) 327681 ok w hs (fun l hl => ?_) h5 (by decide)
  have : l = [w15a] ∨ l = [w15b] := by simpa using hl
  rcases this with rfl | rfl
  · exact h3
  · exact h4
set_option maxHeartbeats 8000000 in
set_option maxRecDepth 100000 in
theorem fairleadlaw15_awake.sk (k : Nat) (w : World) (h : fairleadlaw15_awake.P k) :
    Calls Try.prog 8 #[] w fun e w' => e = .returned (.bool true) ∧ Below w.heap.size w w' := by
  obtain ⟨h1, h2, h3, h4, h5⟩ := h
  have HP := Aside0.mk (show fairleadlaw15_awake.P k from ⟨h1, h2, h3, h4, h5⟩)
  have H1 := Aside0.mk h1
  have H2 := Aside0.mk h2
  clear h1 h2 h3 h4 h5
  go_enter Try.func8, Try.ntmps8
  go_wp2_with (first | ((with_reducible refine gate_dst (N := 7) rfl ?_); refine box_event ?hg (N := 7) ?hd (cs := #[.slice none 0 0, .int .i64 0]) (t := 32) ?hr ?_; (case hd => rfl); (case hg => rfl); (case hr => first | (go_simp; done) | (go_simp; rfl)); intro g hg w1 hbox hb; have HS := Aside0.mk (show SkS (fun k => k ≠ g) w1 g [] 0 from ⟨⟨_, hbox, Kd.R_nil _ _ _ _ _⟩, fun h => h rfl⟩); have GW := Aside0.mk hg; have W1 := Aside0.mk hb; clear hg hbox hb) | (go_at_call 10; (with_reducible refine (awake_one k w15a g [] 0 _ _ HS.out H1.out (by decide) (by decide) (by decide)).mono ?_); rintro e w2 ⟨rfl, hB2, hS2⟩; have HS2 := Aside0.mk (show SkS _ w2 g [[w15a]] 5 from hS2); have W2 := Aside0.mk hB2; clear hB2 hS2 HS) | (go_at_call 10; (with_reducible refine (awake_one k w15b g [[w15a]] 5 _ _ HS2.out H2.out (by decide) (by decide) (by decide)).mono ?_); rintro e w3 ⟨rfl, hB3, hS3⟩; have HS3 := Aside0.mk (show SkS _ w3 g [[w15a], [w15b]] 10 from hS3); have W3 := Aside0.mk hB3; clear hB3 hS3 HS2) | (go_at_call 15; (with_reducible refine (awake_run k g _ _ HS3.out HP.out).mono ?_); rintro e w4 ⟨rfl, hB4⟩; have HS4 := Aside0.mk (HS3.out.below hB4); have W4 := Aside0.mk hB4; clear hB4 HS3) | (go_at_call 12; (refine (stack_Stack_Len.sk g _ _ _ _ HS4.out).mono ?_); rintro e w5 ⟨rfl, rfl⟩) | (go_at_call 13; (refine (stack_Stack_Cost.sk g _ _ _ _ HS4.out).mono ?_); rintro e w5 ⟨rfl, rfl⟩))
  go_ret
  exact ⟨rfl, ((Mine.But.of_below W1.out).join W2.out (fun i hi e => by have := GW.out; omega) |>.join W3.out (fun i hi e => by have := GW.out; omega) |>.thenBelow W4.out).toBelow (S := fun _ => False) (fun _ _ h => h)⟩
def fairleadlaw15_few.l0 : Nat → List (List (S53)) → Int → Int → Option (Bool)
  | 0, _, _, _ => none
  | k + 1, x0, x3, x4 => if x4 < (x0.length : Int) then (if x4 < 40 then (if 0 ≤ x4 then (fairleadlaw15_few.l0 k x0 (wrap64 (x3 + (mn ((rd_L4 x0 x4).length : Int) 10000))) (wrap64 (x4 + 1))) else (none)) else (if (x0.length : Int) ≤ 40 then (some (decide (x3 ≤ 60000))) else (some false))) else (if (x0.length : Int) ≤ 40 then (some (decide (x3 ≤ 60000))) else (some false))
def fairleadlaw15_few.f (k : Nat) (l0 : List (List (S53))) : Option (Bool) := fairleadlaw15_few.l0 k l0 0 0
set_option maxHeartbeats 8000000 in
set_option maxRecDepth 100000 in
theorem fairleadlaw15_few.calls (k : Nat) (A0 : Option Addr) (c0 : Nat) (l0 : List (List (S53))) (r : Bool) (w : World) (hr0 : Kd.C (Kd.slice 53 k53) w A0 l0.length l0) (hc0 : l0.length ≤ c0) (h : fairleadlaw15_few.f k l0 = some r) :
    Calls Try.prog 9 #[.slice A0 l0.length c0] w fun e w' => e = .returned (.bool r) ∧ Below w.heap.size w w' := by
  have HR0 := Aside0.mk hr0
  have HC0 := Aside0.mk hc0
  clear hr0 hc0
  have HB := Aside0.mk (Below.refl w.heap.size w)
  have H : (fairleadlaw15_few.l0 k l0 0 0) = some r := h
  clear h
  have H' := Aside0.mk H
  clear H
  go_enter Try.func9, Try.ntmps9
  go_wp2
  go_loopg [3, 4] k (fun kq v3 v4 w' => ∃ (x3_1 : Int) (x4_1 : Int), v3 = .int .i64 x3_1 ∧ v4 = .int .i64 x4_1 ∧ Aside0 (fairleadlaw15_few.l0 kq l0 x3_1 x4_1 = some r) ∧ Aside0 (kq ≤ k) ∧ Aside0 (Below w.heap.size w w'))
  case atStart => exact ⟨(0), (0), (by first | rfl | (simp; done) | (simp [*]; done)), (by first | rfl | (simp; done) | (simp [*]; done)), H', ⟨Nat.le_refl _⟩, ⟨by repeat (first | (with_reducible first | exact HB.out | apply below_alloc | apply pw_below_drewN | apply below_drew1) | exact HB.out)⟩⟩
  case round =>
    clear H'
    obtain ⟨x3_1, x4_1, rfl, rfl, HA, HK1, HB⟩ := hrel
    cases gk with
    | zero => exact absurd HA.out (by simp [fairleadlaw15_few.l0])
    | succ k1 =>
      have H := HA.out
      clear HA
      simp only [fairleadlaw15_few.l0] at H
      by_cases c2 : x4_1 < (l0.length : Int)
      · rw [if_pos c2] at H
        have c2b0 : decide (x4_1 < (l0.length : Int)) = true := decide_eq_true c2
        clear c2
        by_cases c3 : x4_1 < 40
        · rw [if_pos c3] at H
          have c3b0 : decide (x4_1 < 40) = true := decide_eq_true c3
          clear c3
          by_cases c4 : 0 ≤ x4_1
          · rw [if_pos c4] at H
            have c4b0 : decide (0 ≤ x4_1) = true := decide_eq_true c4
            clear c4
            obtain ⟨ji5, hji5⟩ : ∃ j_ : Int, (mn ((rd_L4 l0 x4_1).length : Int) 10000) = j_ := ⟨_, rfl⟩
            replace H : (fairleadlaw15_few.l0 k1 l0 (wrap64 (x3_1 + (ji5))) (wrap64 (x4_1 + 1))) = some r := by first | (rw [hji5] at H; exact H) | (simp only [hji5] at H ⊢; exact H)
            have hji5_ : (if 10000 < ((rd_L4 l0 x4_1).length : Int) then 10000 else ((rd_L4 l0 x4_1).length : Int)) = ji5 := hji5
            have H' := Aside0.mk H
            clear H
            have p156 : 0 ≤ (x4_1 : Int) := of_decide_eq_true (by first | (with_reducible assumption) | assumption)
            have q156 : x4_1 < (l0.length : Int) := of_decide_eq_true (by first | (with_reducible assumption) | assumption)
            obtain ⟨ad156, A156_0, c156_0, e156, hx156_0, hl156_0, hi156_0⟩ := at_L4 HR0.out x4_1 p156 q156
            cases e156
            replace hx156_0 := (HB.out.cell (World.block_lt_of_cell? w _ hx156_0)).trans hx156_0
            have HR156_0 := Aside0.mk hi156_0
            have HC156_0 := Aside0.mk hl156_0
            clear hi156_0 hl156_0
            replace p156 := eq_true p156
            replace q156 := eq_true q156
            go_wp2
            go_roundg k1
            case measure => have := HK1.out; omega
            case rel => exact ⟨(wrap64 (x3_1 + (ji5))), (wrap64 (x4_1 + 1)), (by first | rfl | (simp; done) | (simp only [← hji5] <;> (first | rfl | simp)) | (simp [*]; done)), (by first | rfl | (simp; done) | (simp [*]; done)), H', ⟨by have := HK1.out; omega⟩, ⟨by repeat (first | (with_reducible first | exact HB.out | apply below_alloc | apply pw_below_drewN | apply below_drew1) | exact HB.out)⟩⟩
          · rw [if_neg c4] at H
            exact absurd H (by simp)
        · rw [if_neg c3] at H
          have c3b0 : decide (x4_1 < 40) = false := decide_eq_false c3
          clear c3
          by_cases c6 : (l0.length : Int) ≤ 40
          · rw [if_pos c6] at H
            have c6b0 : decide ((l0.length : Int) ≤ 40) = true := decide_eq_true c6
            have c6b1 : decide (l0.length ≤ 40) = true := decide_eq_true (by omega)
            clear c6
            obtain rfl := Option.some.inj H
            go_wp2
            go_ret
            exact ⟨by first | rfl | (simp [errW_none, errW_some] <;> rfl) | (simp [*, errW_none, errW_some] <;> rfl), by repeat (first | (with_reducible first | exact HB.out | apply below_alloc | apply pw_below_drewN | apply below_drew1) | exact HB.out)⟩
          · rw [if_neg c6] at H
            have c6b0 : decide ((l0.length : Int) ≤ 40) = false := decide_eq_false c6
            have c6b1 : decide (l0.length ≤ 40) = false := decide_eq_false (by omega)
            clear c6
            obtain rfl := Option.some.inj H
            go_wp2
            go_ret
            exact ⟨by first | rfl | (simp [errW_none, errW_some] <;> rfl) | (simp [*, errW_none, errW_some] <;> rfl), by repeat (first | (with_reducible first | exact HB.out | apply below_alloc | apply pw_below_drewN | apply below_drew1) | exact HB.out)⟩
      · rw [if_neg c2] at H
        have c2b0 : decide (x4_1 < (l0.length : Int)) = false := decide_eq_false c2
        clear c2
        by_cases c7 : (l0.length : Int) ≤ 40
        · rw [if_pos c7] at H
          have c7b0 : decide ((l0.length : Int) ≤ 40) = true := decide_eq_true c7
          have c7b1 : decide (l0.length ≤ 40) = true := decide_eq_true (by omega)
          clear c7
          obtain rfl := Option.some.inj H
          go_wp2
          go_ret
          exact ⟨by first | rfl | (simp [errW_none, errW_some] <;> rfl) | (simp [*, errW_none, errW_some] <;> rfl), by repeat (first | (with_reducible first | exact HB.out | apply below_alloc | apply pw_below_drewN | apply below_drew1) | exact HB.out)⟩
        · rw [if_neg c7] at H
          have c7b0 : decide ((l0.length : Int) ≤ 40) = false := decide_eq_false c7
          have c7b1 : decide (l0.length ≤ 40) = false := decide_eq_false (by omega)
          clear c7
          obtain rfl := Option.some.inj H
          go_wp2
          go_ret
          exact ⟨by first | rfl | (simp [errW_none, errW_some] <;> rfl) | (simp [*, errW_none, errW_some] <;> rfl), by repeat (first | (with_reducible first | exact HB.out | apply below_alloc | apply pw_below_drewN | apply below_drew1) | exact HB.out)⟩
end Go.Proofs.Yteojfjlklikaoaa.M
