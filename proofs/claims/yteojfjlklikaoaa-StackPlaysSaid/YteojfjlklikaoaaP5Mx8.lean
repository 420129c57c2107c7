-- Laid by a program (wip/tools/myprint.py) out of the loaded program's own print: for each Go function a Lean function and the proof of its contract.
import Derived.Test.YteojfjlklikaoaaP5Mx0
import Derived.Test.YteojfjlklikaoaaP5Mx7
namespace Go.Proofs.Yteojfjlklikaoaa.M
open Go.RowKit Go.Proofs.YteojfjlklikaoaaW.PrintWords Go.Proofs.YteojfjlklikaoaaW.PrintLast Go.Proofs.YteojfjlklikaoaaW.PrintMore
attribute [local go_sem] max2_int min2_int max_two min_two max_three min_three max_four min_four   -- for this text's walks alone
set_option linter.unusedVariables false
set_option linter.unusedSimpArgs false
mutual
def fairleadref05_wrong.j0 : Nat → Int → Int → Bool → Int → Int → Int → Int → Option (Int)
  | 0, _, _, _, _, _, _, _ => none
  | k + 1, x6, x7, x35, Z0, Z1, Z2, Z3 => if x35 = true then (some 12) else (if Z0 = 96 then (fairleadref05_wrong.j1 k x6 x7 (decide (Z3 ≥ 16)) Z0 Z1 Z2 Z3) else (if Z0 = 97 then (fairleadref05_wrong.j1 k x6 x7 (decide (Z3 ≥ 16)) Z0 Z1 Z2 Z3) else (if Z0 = 2 then (fairleadref05_wrong.j1 k x6 x7 (decide (Z3 ≥ 16)) Z0 Z1 Z2 Z3) else (if Z0 = 3 then (fairleadref05_wrong.j1 k x6 x7 (decide (Z3 ≥ 16)) Z0 Z1 Z2 Z3) else (fairleadref05_wrong.j1 k x6 x7 false Z0 Z1 Z2 Z3)))))
def fairleadref05_wrong.j1 : Nat → Int → Int → Bool → Int → Int → Int → Int → Option (Int)
  | 0, _, _, _, _, _, _, _ => none
  | k + 1, x6, x7, x58, Z0, Z1, Z2, Z3 => if x58 = true then (some 12) else (if Z0 = 52 then (if Z3 = 0 then (fairleadref05_wrong.j2 k x6 x7 true Z0 Z1 Z2 Z3) else (if Z0 = 100 then (fairleadref05_wrong.j2 k x6 x7 (decide (Z3 > 31)) Z0 Z1 Z2 Z3) else (if Z0 = 116 then (fairleadref05_wrong.j2 k x6 x7 (decide (Z3 > 31)) Z0 Z1 Z2 Z3) else (fairleadref05_wrong.j2 k x6 x7 false Z0 Z1 Z2 Z3)))) else (if Z0 = 100 then (fairleadref05_wrong.j2 k x6 x7 (decide (Z3 > 31)) Z0 Z1 Z2 Z3) else (if Z0 = 116 then (fairleadref05_wrong.j2 k x6 x7 (decide (Z3 > 31)) Z0 Z1 Z2 Z3) else (fairleadref05_wrong.j2 k x6 x7 false Z0 Z1 Z2 Z3))))
def fairleadref05_wrong.j2 : Nat → Int → Int → Bool → Int → Int → Int → Int → Option (Int)
  | 0, _, _, _, _, _, _, _ => none
  | k + 1, x6, x7, x81, Z0, Z1, Z2, Z3 => if x81 = true then (some 13) else (if Z0 = 5 then (fairleadref05_wrong.j3 k x6 x7 (decide ((IntKind.u64.wrap (x7 + (IntKind.u64.wrap (Z3)))) ≥ x6)) Z0 Z1 Z2 Z3) else (fairleadref05_wrong.j3 k x6 x7 false Z0 Z1 Z2 Z3))
def fairleadref05_wrong.j3 : Nat → Int → Int → Bool → Int → Int → Int → Int → Option (Int)
  | 0, _, _, _, _, _, _, _ => none
  | k + 1, x6, x7, x93, Z0, Z1, Z2, Z3 => if x93 = true then (some 14) else (if Z0 = 5 then (fairleadref05_wrong.j4 k x6 x7 false Z0 Z1 Z2 Z3) else ((fairleadref03_Jumps.f Z0).bind fun t175 => (if t175 = true then (if (IntKind.u64.wrap (x7 + (IntKind.u64.wrap (Z1)))) ≥ x6 then (fairleadref05_wrong.j4 k x6 x7 true Z0 Z1 Z2 Z3) else (fairleadref05_wrong.j4 k x6 x7 (decide ((IntKind.u64.wrap (x7 + (IntKind.u64.wrap (Z2)))) ≥ x6)) Z0 Z1 Z2 Z3)) else (fairleadref05_wrong.j4 k x6 x7 false Z0 Z1 Z2 Z3))))
def fairleadref05_wrong.j4 : Nat → Int → Int → Bool → Int → Int → Int → Int → Option (Int)
  | 0, _, _, _, _, _, _, _ => none
  | k + 1, x6, x7, x119, Z0, Z1, Z2, Z3 => if x119 = true then (some 14) else (if x7 = x6 then ((fairleadref03_Ends.f Z0).bind fun t176 => (if t176 = true then (some 0) else (some 15))) else (some 0))
end
def fairleadref05_wrong.f (k : Nat) (l0 : List (S53)) (a1 : Int) : Option (Int) := if 0 ≤ a1 then (if a1 < (l0.length : Int) then ((fairleadref03_Known.f k ((rd_T53 l0 a1).f0)).bind fun t174 => (if t174 = true then (if ((rd_T53 l0 a1).f0) = 32 then (if (Int.tmod ((rd_T53 l0 a1).f3) 4) = 0 then (fairleadref05_wrong.j0 k (IntKind.u64.wrap ((l0.length : Int))) (IntKind.u64.wrap ((IntKind.u64.wrap (a1)) + 1)) (decide (((rd_T53 l0 a1).f3) ≥ 64)) ((rd_T53 l0 a1).f0) ((rd_T53 l0 a1).f1) ((rd_T53 l0 a1).f2) ((rd_T53 l0 a1).f3)) else (fairleadref05_wrong.j0 k (IntKind.u64.wrap ((l0.length : Int))) (IntKind.u64.wrap ((IntKind.u64.wrap (a1)) + 1)) true ((rd_T53 l0 a1).f0) ((rd_T53 l0 a1).f1) ((rd_T53 l0 a1).f2) ((rd_T53 l0 a1).f3))) else (fairleadref05_wrong.j0 k (IntKind.u64.wrap ((l0.length : Int))) (IntKind.u64.wrap ((IntKind.u64.wrap (a1)) + 1)) false ((rd_T53 l0 a1).f0) ((rd_T53 l0 a1).f1) ((rd_T53 l0 a1).f2) ((rd_T53 l0 a1).f3))) else (some 11))) else (none)) else (none)
set_option maxHeartbeats 8000000 in
set_option maxRecDepth 100000 in
theorem fairleadref05_wrong.calls (k : Nat) (A0 : Option Addr) (c0 : Nat) (l0 : List (S53)) (a1 : Int) (r : Int) (w : World) (hr0 : Kd.C k53 w A0 l0.length l0) (hc0 : l0.length ≤ c0) (h : fairleadref05_wrong.f k l0 a1 = some r) :
    Calls Try.prog 34 #[.slice A0 l0.length c0, .int .i64 a1] w fun e w' => e = .returned (.int .i64 r) ∧ Below w.heap.size w w' := by
  have hu53 := Try.underlying53
  have HR0 := Aside0.mk hr0
  have HC0 := Aside0.mk hc0
  clear hr0 hc0
  have HB := Aside0.mk (Below.refl w.heap.size w)
  have H : (if 0 ≤ a1 then (if a1 < (l0.length : Int) then ((fairleadref03_Known.f k ((rd_T53 l0 a1).f0)).bind fun t174 => (if t174 = true then (if ((rd_T53 l0 a1).f0) = 32 then (if (Int.tmod ((rd_T53 l0 a1).f3) 4) = 0 then (fairleadref05_wrong.j0 k (IntKind.u64.wrap ((l0.length : Int))) (IntKind.u64.wrap ((IntKind.u64.wrap (a1)) + 1)) (decide (((rd_T53 l0 a1).f3) ≥ 64)) ((rd_T53 l0 a1).f0) ((rd_T53 l0 a1).f1) ((rd_T53 l0 a1).f2) ((rd_T53 l0 a1).f3)) else (fairleadref05_wrong.j0 k (IntKind.u64.wrap ((l0.length : Int))) (IntKind.u64.wrap ((IntKind.u64.wrap (a1)) + 1)) true ((rd_T53 l0 a1).f0) ((rd_T53 l0 a1).f1) ((rd_T53 l0 a1).f2) ((rd_T53 l0 a1).f3))) else (fairleadref05_wrong.j0 k (IntKind.u64.wrap ((l0.length : Int))) (IntKind.u64.wrap ((IntKind.u64.wrap (a1)) + 1)) false ((rd_T53 l0 a1).f0) ((rd_T53 l0 a1).f1) ((rd_T53 l0 a1).f2) ((rd_T53 l0 a1).f3))) else (some 11))) else (none)) else (none)) = some r := h
  clear h
  by_cases c3 : 0 ≤ a1
  · rw [if_pos c3] at H
    have c3b0 : decide (0 ≤ a1) = true := decide_eq_true c3
    clear c3
    by_cases c4 : a1 < (l0.length : Int)
    · rw [if_pos c4] at H
      have c4b0 : decide (a1 < (l0.length : Int)) = true := decide_eq_true c4
      clear c4
      replace H := Option.bind_eq_some_iff.mp H
      obtain ⟨t174, A50, H⟩ := H
      replace H : (if t174 = true then (if ((rd_T53 l0 a1).f0) = 32 then (if (Int.tmod ((rd_T53 l0 a1).f3) 4) = 0 then (fairleadref05_wrong.j0 k (IntKind.u64.wrap ((l0.length : Int))) (IntKind.u64.wrap ((IntKind.u64.wrap (a1)) + 1)) (decide (((rd_T53 l0 a1).f3) ≥ 64)) ((rd_T53 l0 a1).f0) ((rd_T53 l0 a1).f1) ((rd_T53 l0 a1).f2) ((rd_T53 l0 a1).f3)) else (fairleadref05_wrong.j0 k (IntKind.u64.wrap ((l0.length : Int))) (IntKind.u64.wrap ((IntKind.u64.wrap (a1)) + 1)) true ((rd_T53 l0 a1).f0) ((rd_T53 l0 a1).f1) ((rd_T53 l0 a1).f2) ((rd_T53 l0 a1).f3))) else (fairleadref05_wrong.j0 k (IntKind.u64.wrap ((l0.length : Int))) (IntKind.u64.wrap ((IntKind.u64.wrap (a1)) + 1)) false ((rd_T53 l0 a1).f0) ((rd_T53 l0 a1).f1) ((rd_T53 l0 a1).f2) ((rd_T53 l0 a1).f3))) else (some 11)) = some r := H
      have A5 := Aside0.mk A50
      clear A50
      by_cases c6 : t174 = true
      · subst c6
        have H1 : (if ((rd_T53 l0 a1).f0) = 32 then (if (Int.tmod ((rd_T53 l0 a1).f3) 4) = 0 then (fairleadref05_wrong.j0 k (IntKind.u64.wrap ((l0.length : Int))) (IntKind.u64.wrap ((IntKind.u64.wrap (a1)) + 1)) (decide (((rd_T53 l0 a1).f3) ≥ 64)) ((rd_T53 l0 a1).f0) ((rd_T53 l0 a1).f1) ((rd_T53 l0 a1).f2) ((rd_T53 l0 a1).f3)) else (fairleadref05_wrong.j0 k (IntKind.u64.wrap ((l0.length : Int))) (IntKind.u64.wrap ((IntKind.u64.wrap (a1)) + 1)) true ((rd_T53 l0 a1).f0) ((rd_T53 l0 a1).f1) ((rd_T53 l0 a1).f2) ((rd_T53 l0 a1).f3))) else (fairleadref05_wrong.j0 k (IntKind.u64.wrap ((l0.length : Int))) (IntKind.u64.wrap ((IntKind.u64.wrap (a1)) + 1)) false ((rd_T53 l0 a1).f0) ((rd_T53 l0 a1).f1) ((rd_T53 l0 a1).f2) ((rd_T53 l0 a1).f3))) = some r := by rw [if_pos rfl] at H; exact H
        clear H
        have H := H1
        clear H1
        have HC7 := Aside0.mk H
        clear H
        have p172 : 0 ≤ (a1 : Int) := of_decide_eq_true (by first | (with_reducible assumption) | assumption)
        have q172 : a1 < (l0.length : Int) := of_decide_eq_true (by first | (with_reducible assumption) | assumption)
        obtain ⟨ad172, e172, hx172_0, hx172_1, hx172_2, hx172_3⟩ := at_T53 HR0.out a1 p172 q172
        cases e172
        replace p172 := eq_true p172
        replace q172 := eq_true q172
        go_enter Try.func34, Try.ntmps34
        go_upto_region 6 with (first | ((with_reducible refine gate_dst (N := 5) rfl ?_); refine box_event ?hg (N := 5) ?hd (cs := #[.int .u16 0, .int .u8 0, .int .u8 0, .int .u32 0]) (t := 53) ?hr ?_; (case hd => rfl); (case hg => rfl); (case hr => first | (go_simp; done) | (go_simp; rfl)); intro gb173 hg w8 hbox hb; have n0_ := Aside0.mk (below_step (by repeat (first | (with_reducible first | exact HB.out | apply below_alloc | apply pw_below_drewN | apply below_drew1) | exact HB.out)) hb); have n1_ := Aside0.mk (hbox); have n2_ := Aside0.mk ((by rw [hg]; exact (below_size (by repeat (first | (with_reducible first | exact HB.out | apply below_alloc | apply pw_below_drewN | apply below_drew1) | exact HB.out))) : w.heap.size ≤ gb173)); have n3_ := Aside0.mk ((by rw [hg]; exact (below_size (by repeat (first | (with_reducible first | exact HB.out | apply below_alloc | apply pw_below_drewN | apply below_drew1) | exact HB.out))) : w.heap.size ≤ gb173)); clear HB; have HB := n0_; have BK173 := n1_; have GW173 := n2_; have GE173 := n3_; clear n0_ n1_ n2_ n3_; clear hb hbox hg; obtain ⟨hcz9_0, hcz9_1, hcz9_2, hcz9_3⟩ := Mine.cells4 BK173.out; have hfz9_0 := blk_frozen BK173.out) | ((with_reducible refine gate_callee (f := 40) rfl ?_); refine goesL_ (some 20) rfl rfl Try.func40 (by kernel_rfl) rfl #[.int .u16 ((rd_T53 l0 a1).f0)] rfl (by (try simp only [List.map_toArray, List.map_cons, List.map_nil]); first | done | rfl | (simp only [List.length_drop, List.length_take]; rfl)) ?_; (with_reducible refine (fairleadref03_Known.calls k ((rd_T53 l0 a1).f0) true _ A5.out).mono ?_); rintro e w10 ⟨rfl, hb⟩; refine ⟨_, rfl, ?_⟩; have n0_ := Aside0.mk (blk_below (g := gb173) (o := .cells #[.int .u16 ((rd_T53 l0 a1).f0), .int .u8 ((rd_T53 l0 a1).f1), .int .u8 ((rd_T53 l0 a1).f2), .int .u32 ((rd_T53 l0 a1).f3)] 53 (0, 0)) (by (with_reducible repeat (first | refine blk_drewN ?_ _ | refine blk_drew ?_ | refine blk_alloc ?_ _)); refine blk_put (cs := #[.int .u16 ((rd_T53 l0 a1).f0), .int .u8 ((rd_T53 l0 a1).f1), .int .u8 ((rd_T53 l0 a1).f2), .int .u32 0]) ?_ 3 _ rfl; (with_reducible repeat (first | refine blk_drewN ?_ _ | refine blk_drew ?_ | refine blk_alloc ?_ _)); refine blk_put (cs := #[.int .u16 ((rd_T53 l0 a1).f0), .int .u8 ((rd_T53 l0 a1).f1), .int .u8 0, .int .u32 0]) ?_ 2 _ rfl; (with_reducible repeat (first | refine blk_drewN ?_ _ | refine blk_drew ?_ | refine blk_alloc ?_ _)); refine blk_put (cs := #[.int .u16 ((rd_T53 l0 a1).f0), .int .u8 0, .int .u8 0, .int .u32 0]) ?_ 1 _ rfl; (with_reducible repeat (first | refine blk_drewN ?_ _ | refine blk_drew ?_ | refine blk_alloc ?_ _)); refine blk_put (cs := #[.int .u16 0, .int .u8 0, .int .u8 0, .int .u32 0]) ?_ 0 _ rfl; (with_reducible repeat (first | refine blk_drewN ?_ _ | refine blk_drew ?_ | refine blk_alloc ?_ _)); exact BK173.out) hb); have n1_ := Aside0.mk (below_step (by repeat (first | (with_reducible first | exact HB.out | apply below_alloc | apply pw_below_drewN | apply below_drew1 | refine below_set ?_ GE173.out) | exact HB.out)) hb); clear BK173; clear HB; have BK173 := n0_; have HB := n1_; clear n0_ n1_; (try clear hb); (try clear hb2); (try clear hk); (try clear hi)))
        (try simp only [Act.put, List.setIfInBounds_toArray, List.set_cons_zero, List.set_cons_succ])
        go_cut [35] (fun v35 wc => ∃ (kq : Nat) (x35_6 : Bool), v35 = .bool x35_6 ∧ Aside0 (fairleadref05_wrong.j0 kq (IntKind.u64.wrap ((l0.length : Int))) (IntKind.u64.wrap ((IntKind.u64.wrap (a1)) + 1)) x35_6 ((rd_T53 l0 a1).f0) ((rd_T53 l0 a1).f1) ((rd_T53 l0 a1).f2) ((rd_T53 l0 a1).f3) = some r) ∧ Aside0 (kq ≤ k) ∧ Aside0 (wc.heap[gb173]? = some (.cells #[.int .u16 ((rd_T53 l0 a1).f0), .int .u8 ((rd_T53 l0 a1).f1), .int .u8 ((rd_T53 l0 a1).f2), .int .u32 ((rd_T53 l0 a1).f3)] 53 (0, 0))) ∧ Aside0 (Below w.heap.size w wc))
        case first =>
          have H := HC7.out
          clear HC7
          by_cases c11 : ((rd_T53 l0 a1).f0) = 32
          · rw [if_pos c11] at H
            have c11b0 : (((rd_T53 l0 a1).f0) == 32) = true := beq_iff_eq.mpr c11
            have c11b1 : (((rd_T53 l0 a1).f0) != 32) = false := bne_eq_false_iff_eq.mpr c11
            clear c11
            (first | rw [c11b0] | (simp only [i64_w, i32_w]; rw [c11b0]) | skip)
            by_cases c12 : (Int.tmod ((rd_T53 l0 a1).f3) 4) = 0
            · rw [if_pos c12] at H
              have c12b0 : ((Int.tmod ((rd_T53 l0 a1).f3) 4) == 0) = true := beq_iff_eq.mpr c12
              have c12b1 : ((Int.tmod ((rd_T53 l0 a1).f3) 4) != 0) = false := bne_eq_false_iff_eq.mpr c12
              clear c12
              have H' := Aside0.mk H
              clear H
              obtain ⟨hcz13_0, hcz13_1, hcz13_2, hcz13_3⟩ := Mine.cells4 BK173.out
              have hfz13_0 := blk_frozen BK173.out
              go_wp2
              go_meet
              case rel => exact ⟨_, (decide (((rd_T53 l0 a1).f3) ≥ 64)), (by first | rfl | (simp; done) | (simp [*]; done)), H', ⟨by first | omega | exact Nat.le_refl _⟩, ⟨by (with_reducible repeat (first | refine blk_drewN ?_ _ | refine blk_drew ?_ | refine blk_alloc ?_ _)); exact BK173.out⟩, ⟨by repeat (first | (with_reducible first | exact HB.out | apply below_alloc | apply pw_below_drewN | apply below_drew1 | refine below_set ?_ GE173.out) | exact HB.out)⟩⟩
            · rw [if_neg c12] at H
              have c12b0 : ((Int.tmod ((rd_T53 l0 a1).f3) 4) == 0) = false := beq_eq_false_iff_ne.mpr c12
              have c12b1 : ((Int.tmod ((rd_T53 l0 a1).f3) 4) != 0) = true := bne_iff_ne.mpr c12
              have H' := Aside0.mk H
              clear H
              obtain ⟨hcz14_0, hcz14_1, hcz14_2, hcz14_3⟩ := Mine.cells4 BK173.out
              have hfz14_0 := blk_frozen BK173.out
              go_wp2
              go_meet
              case rel => exact ⟨_, (true), (by first | rfl | (simp; done) | (simp [*]; done)), H', ⟨by first | omega | exact Nat.le_refl _⟩, ⟨by (with_reducible repeat (first | refine blk_drewN ?_ _ | refine blk_drew ?_ | refine blk_alloc ?_ _)); exact BK173.out⟩, ⟨by repeat (first | (with_reducible first | exact HB.out | apply below_alloc | apply pw_below_drewN | apply below_drew1 | refine below_set ?_ GE173.out) | exact HB.out)⟩⟩
          · rw [if_neg c11] at H
            have c11b0 : (((rd_T53 l0 a1).f0) == 32) = false := beq_eq_false_iff_ne.mpr c11
            have c11b1 : (((rd_T53 l0 a1).f0) != 32) = true := bne_iff_ne.mpr c11
            (first | rw [c11b0] | (simp only [i64_w, i32_w]; rw [c11b0]) | skip)
            have H' := Aside0.mk H
            clear H
            obtain ⟨hcz15_0, hcz15_1, hcz15_2, hcz15_3⟩ := Mine.cells4 BK173.out
            have hfz15_0 := blk_frozen BK173.out
            go_wp2
            go_meet
            case rel => exact ⟨_, (false), (by first | rfl | (simp; done) | (simp [*]; done)), H', ⟨by first | omega | exact Nat.le_refl _⟩, ⟨by (with_reducible repeat (first | refine blk_drewN ?_ _ | refine blk_drew ?_ | refine blk_alloc ?_ _)); exact BK173.out⟩, ⟨by repeat (first | (with_reducible first | exact HB.out | apply below_alloc | apply pw_below_drewN | apply below_drew1 | refine below_set ?_ GE173.out) | exact HB.out)⟩⟩
        case rest =>
          clear HC7
          try clear c1
          try clear p1
          try clear q1
          try clear hx1
          try clear p2
          try clear c3
          try clear c3b0
          try clear c4
          try clear c4b0
          try clear c6
          try clear c11
          try clear c11b0
          try clear c11b1
          try clear c12
          try clear c12b0
          try clear c12b1
          try clear hcz13_0 hcz13_1 hcz13_2 hcz13_3
          try clear hcz14_0 hcz14_1 hcz14_2 hcz14_3
          try clear hcz15_0 hcz15_1 hcz15_2 hcz15_3
          try clear hcz9_0 hcz9_1 hcz9_2 hcz9_3
          try clear hfz13_0
          try clear hfz14_0
          try clear hfz15_0
          try clear hfz9_0
          try clear hx172_0
          try clear hx172_1
          try clear hx172_2
          try clear hx172_3
          try clear p172
          try clear q172
          obtain ⟨kq, x35_6, rfl, HA, HJ6, BK173, HB⟩ := hcut
          cases kq with
          | zero => exact absurd HA.out (by simp [fairleadref05_wrong.j0])
          | succ kj6 =>
            have H := HA.out
            clear HA
            simp only [fairleadref05_wrong.j0] at H
            by_cases c16 : x35_6 = true
            · subst c16
              have H1 : (some 12) = some r := by rw [if_pos rfl] at H; exact H
              clear H
              have H := H1
              clear H1
              obtain rfl := Option.some.inj H
              go_wp2
              go_ret
              exact ⟨by first | rfl | (simp [errW_none, errW_some] <;> rfl) | (simp [*, errW_none, errW_some] <;> rfl), by repeat (first | (with_reducible first | exact HB.out | apply below_alloc | apply pw_below_drewN | apply below_drew1 | refine below_set ?_ GE173.out) | exact HB.out)⟩
            · replace c16 := Bool.eq_false_iff.mpr c16
              subst c16
              have H1 : (if ((rd_T53 l0 a1).f0) = 96 then (fairleadref05_wrong.j1 kj6 (IntKind.u64.wrap ((l0.length : Int))) (IntKind.u64.wrap ((IntKind.u64.wrap (a1)) + 1)) (decide (((rd_T53 l0 a1).f3) ≥ 16)) ((rd_T53 l0 a1).f0) ((rd_T53 l0 a1).f1) ((rd_T53 l0 a1).f2) ((rd_T53 l0 a1).f3)) else (if ((rd_T53 l0 a1).f0) = 97 then (fairleadref05_wrong.j1 kj6 (IntKind.u64.wrap ((l0.length : Int))) (IntKind.u64.wrap ((IntKind.u64.wrap (a1)) + 1)) (decide (((rd_T53 l0 a1).f3) ≥ 16)) ((rd_T53 l0 a1).f0) ((rd_T53 l0 a1).f1) ((rd_T53 l0 a1).f2) ((rd_T53 l0 a1).f3)) else (if ((rd_T53 l0 a1).f0) = 2 then (fairleadref05_wrong.j1 kj6 (IntKind.u64.wrap ((l0.length : Int))) (IntKind.u64.wrap ((IntKind.u64.wrap (a1)) + 1)) (decide (((rd_T53 l0 a1).f3) ≥ 16)) ((rd_T53 l0 a1).f0) ((rd_T53 l0 a1).f1) ((rd_T53 l0 a1).f2) ((rd_T53 l0 a1).f3)) else (if ((rd_T53 l0 a1).f0) = 3 then (fairleadref05_wrong.j1 kj6 (IntKind.u64.wrap ((l0.length : Int))) (IntKind.u64.wrap ((IntKind.u64.wrap (a1)) + 1)) (decide (((rd_T53 l0 a1).f3) ≥ 16)) ((rd_T53 l0 a1).f0) ((rd_T53 l0 a1).f1) ((rd_T53 l0 a1).f2) ((rd_T53 l0 a1).f3)) else (fairleadref05_wrong.j1 kj6 (IntKind.u64.wrap ((l0.length : Int))) (IntKind.u64.wrap ((IntKind.u64.wrap (a1)) + 1)) false ((rd_T53 l0 a1).f0) ((rd_T53 l0 a1).f1) ((rd_T53 l0 a1).f2) ((rd_T53 l0 a1).f3)))))) = some r := by rw [if_neg (show ¬ (false = true) by decide)] at H; exact H
              clear H
              have H := H1
              clear H1
              have HC17 := Aside0.mk H
              clear H
              go_upto_region 8 with (fail)
              go_cut [58] (fun v58 wc => ∃ (kq : Nat) (x58_16 : Bool), v58 = .bool x58_16 ∧ Aside0 (fairleadref05_wrong.j1 kq (IntKind.u64.wrap ((l0.length : Int))) (IntKind.u64.wrap ((IntKind.u64.wrap (a1)) + 1)) x58_16 ((rd_T53 l0 a1).f0) ((rd_T53 l0 a1).f1) ((rd_T53 l0 a1).f2) ((rd_T53 l0 a1).f3) = some r) ∧ Aside0 (kq ≤ kj6) ∧ Aside0 (wc.heap[gb173]? = some (.cells #[.int .u16 ((rd_T53 l0 a1).f0), .int .u8 ((rd_T53 l0 a1).f1), .int .u8 ((rd_T53 l0 a1).f2), .int .u32 ((rd_T53 l0 a1).f3)] 53 (0, 0))) ∧ Aside0 (Below w.heap.size w wc))
              case first =>
                have H := HC17.out
                clear HC17
                by_cases c18 : ((rd_T53 l0 a1).f0) = 96
                · rw [if_pos c18] at H
                  have c18b0 : (((rd_T53 l0 a1).f0) == 96) = true := beq_iff_eq.mpr c18
                  have c18b1 : (((rd_T53 l0 a1).f0) != 96) = false := bne_eq_false_iff_eq.mpr c18
                  clear c18
                  (first | rw [c18b0] | (simp only [i64_w, i32_w]; rw [c18b0]) | skip)
                  have H' := Aside0.mk H
                  clear H
                  obtain ⟨hcz19_0, hcz19_1, hcz19_2, hcz19_3⟩ := Mine.cells4 BK173.out
                  have hfz19_0 := blk_frozen BK173.out
                  go_wp2
                  go_meet
                  case rel => exact ⟨_, (decide (((rd_T53 l0 a1).f3) ≥ 16)), (by first | rfl | (simp; done) | (simp [*]; done)), H', ⟨by have := HJ6.out; first | omega | exact Nat.le_refl _⟩, ⟨by (with_reducible repeat (first | refine blk_drewN ?_ _ | refine blk_drew ?_ | refine blk_alloc ?_ _)); exact BK173.out⟩, ⟨by repeat (first | (with_reducible first | exact HB.out | apply below_alloc | apply pw_below_drewN | apply below_drew1 | refine below_set ?_ GE173.out) | exact HB.out)⟩⟩
                · rw [if_neg c18] at H
                  have c18b0 : (((rd_T53 l0 a1).f0) == 96) = false := beq_eq_false_iff_ne.mpr c18
                  have c18b1 : (((rd_T53 l0 a1).f0) != 96) = true := bne_iff_ne.mpr c18
                  (first | rw [c18b0] | (simp only [i64_w, i32_w]; rw [c18b0]) | skip)
                  by_cases c20 : ((rd_T53 l0 a1).f0) = 97
                  · rw [if_pos c20] at H
                    have c20b0 : (((rd_T53 l0 a1).f0) == 97) = true := beq_iff_eq.mpr c20
                    have c20b1 : (((rd_T53 l0 a1).f0) != 97) = false := bne_eq_false_iff_eq.mpr c20
                    clear c20
                    have H' := Aside0.mk H
                    clear H
                    obtain ⟨hcz21_0, hcz21_1, hcz21_2, hcz21_3⟩ := Mine.cells4 BK173.out
                    have hfz21_0 := blk_frozen BK173.out
                    go_wp2
                    go_meet
                    case rel => exact ⟨_, (decide (((rd_T53 l0 a1).f3) ≥ 16)), (by first | rfl | (simp; done) | (simp [*]; done)), H', ⟨by have := HJ6.out; first | omega | exact Nat.le_refl _⟩, ⟨by (with_reducible repeat (first | refine blk_drewN ?_ _ | refine blk_drew ?_ | refine blk_alloc ?_ _)); exact BK173.out⟩, ⟨by repeat (first | (with_reducible first | exact HB.out | apply below_alloc | apply pw_below_drewN | apply below_drew1 | refine below_set ?_ GE173.out) | exact HB.out)⟩⟩
                  · rw [if_neg c20] at H
                    have c20b0 : (((rd_T53 l0 a1).f0) == 97) = false := beq_eq_false_iff_ne.mpr c20
                    have c20b1 : (((rd_T53 l0 a1).f0) != 97) = true := bne_iff_ne.mpr c20
                    by_cases c22 : ((rd_T53 l0 a1).f0) = 2
                    · rw [if_pos c22] at H
                      have c22b0 : (((rd_T53 l0 a1).f0) == 2) = true := beq_iff_eq.mpr c22
                      have c22b1 : (((rd_T53 l0 a1).f0) != 2) = false := bne_eq_false_iff_eq.mpr c22
                      clear c22
                      have H' := Aside0.mk H
                      clear H
                      obtain ⟨hcz23_0, hcz23_1, hcz23_2, hcz23_3⟩ := Mine.cells4 BK173.out
                      have hfz23_0 := blk_frozen BK173.out
                      go_wp2
                      go_meet
                      case rel => exact ⟨_, (decide (((rd_T53 l0 a1).f3) ≥ 16)), (by first | rfl | (simp; done) | (simp [*]; done)), H', ⟨by have := HJ6.out; first | omega | exact Nat.le_refl _⟩, ⟨by (with_reducible repeat (first | refine blk_drewN ?_ _ | refine blk_drew ?_ | refine blk_alloc ?_ _)); exact BK173.out⟩, ⟨by repeat (first | (with_reducible first | exact HB.out | apply below_alloc | apply pw_below_drewN | apply below_drew1 | refine below_set ?_ GE173.out) | exact HB.out)⟩⟩
                    · rw [if_neg c22] at H
                      have c22b0 : (((rd_T53 l0 a1).f0) == 2) = false := beq_eq_false_iff_ne.mpr c22
                      have c22b1 : (((rd_T53 l0 a1).f0) != 2) = true := bne_iff_ne.mpr c22
                      by_cases c24 : ((rd_T53 l0 a1).f0) = 3
                      · rw [if_pos c24] at H
                        have c24b0 : (((rd_T53 l0 a1).f0) == 3) = true := beq_iff_eq.mpr c24
                        have c24b1 : (((rd_T53 l0 a1).f0) != 3) = false := bne_eq_false_iff_eq.mpr c24
                        clear c24
                        have H' := Aside0.mk H
                        clear H
                        obtain ⟨hcz25_0, hcz25_1, hcz25_2, hcz25_3⟩ := Mine.cells4 BK173.out
                        have hfz25_0 := blk_frozen BK173.out
                        go_wp2
                        go_meet
                        case rel => exact ⟨_, (decide (((rd_T53 l0 a1).f3) ≥ 16)), (by first | rfl | (simp; done) | (simp [*]; done)), H', ⟨by have := HJ6.out; first | omega | exact Nat.le_refl _⟩, ⟨by (with_reducible repeat (first | refine blk_drewN ?_ _ | refine blk_drew ?_ | refine blk_alloc ?_ _)); exact BK173.out⟩, ⟨by repeat (first | (with_reducible first | exact HB.out | apply below_alloc | apply pw_below_drewN | apply below_drew1 | refine below_set ?_ GE173.out) | exact HB.out)⟩⟩
                      · rw [if_neg c24] at H
                        have c24b0 : (((rd_T53 l0 a1).f0) == 3) = false := beq_eq_false_iff_ne.mpr c24
                        have c24b1 : (((rd_T53 l0 a1).f0) != 3) = true := bne_iff_ne.mpr c24
                        have H' := Aside0.mk H
                        clear H
                        obtain ⟨hcz26_0, hcz26_1, hcz26_2, hcz26_3⟩ := Mine.cells4 BK173.out
                        have hfz26_0 := blk_frozen BK173.out
                        go_wp2
                        go_meet
                        case rel => exact ⟨_, (false), (by first | rfl | (simp; done) | (simp [*]; done)), H', ⟨by have := HJ6.out; first | omega | exact Nat.le_refl _⟩, ⟨by (with_reducible repeat (first | refine blk_drewN ?_ _ | refine blk_drew ?_ | refine blk_alloc ?_ _)); exact BK173.out⟩, ⟨by repeat (first | (with_reducible first | exact HB.out | apply below_alloc | apply pw_below_drewN | apply below_drew1 | refine below_set ?_ GE173.out) | exact HB.out)⟩⟩
              case rest =>
                clear HC17
                try clear c1
                try clear p1
                try clear q1
                try clear hx1
                try clear c2
                try clear p2
                try clear c3
                try clear c3b0
                try clear c4
                try clear c4b0
                try clear c6
                try clear c11
                try clear c11b0
                try clear c11b1
                try clear c12
                try clear c12b0
                try clear c12b1
                try clear c16
                try clear p17
                try clear q17
                try clear hx17
                try clear c18
                try clear c18b0
                try clear c18b1
                try clear c20
                try clear c20b0
                try clear c20b1
                try clear c22
                try clear c22b0
                try clear c22b1
                try clear c24
                try clear c24b0
                try clear c24b1
                try clear hcz13_0 hcz13_1 hcz13_2 hcz13_3
                try clear hcz14_0 hcz14_1 hcz14_2 hcz14_3
                try clear hcz15_0 hcz15_1 hcz15_2 hcz15_3
                try clear hcz19_0 hcz19_1 hcz19_2 hcz19_3
                try clear hcz21_0 hcz21_1 hcz21_2 hcz21_3
                try clear hcz23_0 hcz23_1 hcz23_2 hcz23_3
                try clear hcz25_0 hcz25_1 hcz25_2 hcz25_3
                try clear hcz26_0 hcz26_1 hcz26_2 hcz26_3
                try clear hcz9_0 hcz9_1 hcz9_2 hcz9_3
                try clear hfz13_0
                try clear hfz14_0
                try clear hfz15_0
                try clear hfz19_0
                try clear hfz21_0
                try clear hfz23_0
                try clear hfz25_0
                try clear hfz26_0
                try clear hfz9_0
                try clear hx172_0
                try clear hx172_1
                try clear hx172_2
                try clear hx172_3
                try clear p1
                try clear p172
                try clear p2
                try clear q1
                try clear q172
                obtain ⟨kq, x58_16, rfl, HA, HJ16, BK173, HB⟩ := hcut
                cases kq with
                | zero => exact absurd HA.out (by simp [fairleadref05_wrong.j1])
                | succ kj16 =>
                  have H := HA.out
                  clear HA
                  simp only [fairleadref05_wrong.j1] at H
                  by_cases c27 : x58_16 = true
                  · subst c27
                    have H1 : (some 12) = some r := by rw [if_pos rfl] at H; exact H
                    clear H
                    have H := H1
                    clear H1
                    obtain rfl := Option.some.inj H
                    go_wp2
                    go_ret
                    exact ⟨by first | rfl | (simp [errW_none, errW_some] <;> rfl) | (simp [*, errW_none, errW_some] <;> rfl), by repeat (first | (with_reducible first | exact HB.out | apply below_alloc | apply pw_below_drewN | apply below_drew1 | refine below_set ?_ GE173.out) | exact HB.out)⟩
                  · replace c27 := Bool.eq_false_iff.mpr c27
                    subst c27
                    have H1 : (if ((rd_T53 l0 a1).f0) = 52 then (if ((rd_T53 l0 a1).f3) = 0 then (fairleadref05_wrong.j2 kj16 (IntKind.u64.wrap ((l0.length : Int))) (IntKind.u64.wrap ((IntKind.u64.wrap (a1)) + 1)) true ((rd_T53 l0 a1).f0) ((rd_T53 l0 a1).f1) ((rd_T53 l0 a1).f2) ((rd_T53 l0 a1).f3)) else (if ((rd_T53 l0 a1).f0) = 100 then (fairleadref05_wrong.j2 kj16 (IntKind.u64.wrap ((l0.length : Int))) (IntKind.u64.wrap ((IntKind.u64.wrap (a1)) + 1)) (decide (((rd_T53 l0 a1).f3) > 31)) ((rd_T53 l0 a1).f0) ((rd_T53 l0 a1).f1) ((rd_T53 l0 a1).f2) ((rd_T53 l0 a1).f3)) else (if ((rd_T53 l0 a1).f0) = 116 then (fairleadref05_wrong.j2 kj16 (IntKind.u64.wrap ((l0.length : Int))) (IntKind.u64.wrap ((IntKind.u64.wrap (a1)) + 1)) (decide (((rd_T53 l0 a1).f3) > 31)) ((rd_T53 l0 a1).f0) ((rd_T53 l0 a1).f1) ((rd_T53 l0 a1).f2) ((rd_T53 l0 a1).f3)) else (fairleadref05_wrong.j2 kj16 (IntKind.u64.wrap ((l0.length : Int))) (IntKind.u64.wrap ((IntKind.u64.wrap (a1)) + 1)) false ((rd_T53 l0 a1).f0) ((rd_T53 l0 a1).f1) ((rd_T53 l0 a1).f2) ((rd_T53 l0 a1).f3))))) else (if ((rd_T53 l0 a1).f0) = 100 then (fairleadref05_wrong.j2 kj16 (IntKind.u64.wrap ((l0.length : Int))) (IntKind.u64.wrap ((IntKind.u64.wrap (a1)) + 1)) (decide (((rd_T53 l0 a1).f3) > 31)) ((rd_T53 l0 a1).f0) ((rd_T53 l0 a1).f1) ((rd_T53 l0 a1).f2) ((rd_T53 l0 a1).f3)) else (if ((rd_T53 l0 a1).f0) = 116 then (fairleadref05_wrong.j2 kj16 (IntKind.u64.wrap ((l0.length : Int))) (IntKind.u64.wrap ((IntKind.u64.wrap (a1)) + 1)) (decide (((rd_T53 l0 a1).f3) > 31)) ((rd_T53 l0 a1).f0) ((rd_T53 l0 a1).f1) ((rd_T53 l0 a1).f2) ((rd_T53 l0 a1).f3)) else (fairleadref05_wrong.j2 kj16 (IntKind.u64.wrap ((l0.length : Int))) (IntKind.u64.wrap ((IntKind.u64.wrap (a1)) + 1)) false ((rd_T53 l0 a1).f0) ((rd_T53 l0 a1).f1) ((rd_T53 l0 a1).f2) ((rd_T53 l0 a1).f3))))) = some r := by rw [if_neg (show ¬ (false = true) by decide)] at H; exact H
                    clear H
                    have H := H1
                    clear H1
                    have HC28 := Aside0.mk H
                    clear H
                    go_upto_region 10 with (fail)
                    go_cut [81] (fun v81 wc => ∃ (kq : Nat) (x81_27 : Bool), v81 = .bool x81_27 ∧ Aside0 (fairleadref05_wrong.j2 kq (IntKind.u64.wrap ((l0.length : Int))) (IntKind.u64.wrap ((IntKind.u64.wrap (a1)) + 1)) x81_27 ((rd_T53 l0 a1).f0) ((rd_T53 l0 a1).f1) ((rd_T53 l0 a1).f2) ((rd_T53 l0 a1).f3) = some r) ∧ Aside0 (kq ≤ kj16) ∧ Aside0 (wc.heap[gb173]? = some (.cells #[.int .u16 ((rd_T53 l0 a1).f0), .int .u8 ((rd_T53 l0 a1).f1), .int .u8 ((rd_T53 l0 a1).f2), .int .u32 ((rd_T53 l0 a1).f3)] 53 (0, 0))) ∧ Aside0 (Below w.heap.size w wc))
                    case first =>
                      have H := HC28.out
                      clear HC28
                      by_cases c29 : ((rd_T53 l0 a1).f0) = 52
                      · rw [if_pos c29] at H
                        have c29b0 : (((rd_T53 l0 a1).f0) == 52) = true := beq_iff_eq.mpr c29
                        have c29b1 : (((rd_T53 l0 a1).f0) != 52) = false := bne_eq_false_iff_eq.mpr c29
                        clear c29
                        (first | rw [c29b0] | (simp only [i64_w, i32_w]; rw [c29b0]) | skip)
                        by_cases c30 : ((rd_T53 l0 a1).f3) = 0
                        · rw [if_pos c30] at H
                          have c30b0 : (((rd_T53 l0 a1).f3) == 0) = true := beq_iff_eq.mpr c30
                          have c30b1 : (((rd_T53 l0 a1).f3) != 0) = false := bne_eq_false_iff_eq.mpr c30
                          clear c30
                          have H' := Aside0.mk H
                          clear H
                          obtain ⟨hcz31_0, hcz31_1, hcz31_2, hcz31_3⟩ := Mine.cells4 BK173.out
                          have hfz31_0 := blk_frozen BK173.out
                          go_wp2
                          go_meet
                          case rel => exact ⟨_, (true), (by first | rfl | (simp; done) | (simp [*]; done)), H', ⟨by have := HJ6.out; have := HJ16.out; first | omega | exact Nat.le_refl _⟩, ⟨by (with_reducible repeat (first | refine blk_drewN ?_ _ | refine blk_drew ?_ | refine blk_alloc ?_ _)); exact BK173.out⟩, ⟨by repeat (first | (with_reducible first | exact HB.out | apply below_alloc | apply pw_below_drewN | apply below_drew1 | refine below_set ?_ GE173.out) | exact HB.out)⟩⟩
                        · rw [if_neg c30] at H
                          have c30b0 : (((rd_T53 l0 a1).f3) == 0) = false := beq_eq_false_iff_ne.mpr c30
                          have c30b1 : (((rd_T53 l0 a1).f3) != 0) = true := bne_iff_ne.mpr c30
                          by_cases c32 : ((rd_T53 l0 a1).f0) = 100
                          · rw [if_pos c32] at H
                            have c32b0 : (((rd_T53 l0 a1).f0) == 100) = true := beq_iff_eq.mpr c32
                            have c32b1 : (((rd_T53 l0 a1).f0) != 100) = false := bne_eq_false_iff_eq.mpr c32
                            clear c32
                            have H' := Aside0.mk H
                            clear H
                            obtain ⟨hcz33_0, hcz33_1, hcz33_2, hcz33_3⟩ := Mine.cells4 BK173.out
                            have hfz33_0 := blk_frozen BK173.out
                            go_wp2
                            go_meet
                            case rel => exact ⟨_, (decide (((rd_T53 l0 a1).f3) > 31)), (by first | rfl | (simp; done) | (simp [*]; done)), H', ⟨by have := HJ6.out; have := HJ16.out; first | omega | exact Nat.le_refl _⟩, ⟨by (with_reducible repeat (first | refine blk_drewN ?_ _ | refine blk_drew ?_ | refine blk_alloc ?_ _)); exact BK173.out⟩, ⟨by repeat (first | (with_reducible first | exact HB.out | apply below_alloc | apply pw_below_drewN | apply below_drew1 | refine below_set ?_ GE173.out) | exact HB.out)⟩⟩
                          · rw [if_neg c32] at H
                            have c32b0 : (((rd_T53 l0 a1).f0) == 100) = false := beq_eq_false_iff_ne.mpr c32
                            have c32b1 : (((rd_T53 l0 a1).f0) != 100) = true := bne_iff_ne.mpr c32
                            by_cases c34 : ((rd_T53 l0 a1).f0) = 116
                            · rw [if_pos c34] at H
                              have c34b0 : (((rd_T53 l0 a1).f0) == 116) = true := beq_iff_eq.mpr c34
                              have c34b1 : (((rd_T53 l0 a1).f0) != 116) = false := bne_eq_false_iff_eq.mpr c34
                              clear c34
                              have H' := Aside0.mk H
                              clear H
                              obtain ⟨hcz35_0, hcz35_1, hcz35_2, hcz35_3⟩ := Mine.cells4 BK173.out
                              have hfz35_0 := blk_frozen BK173.out
                              go_wp2
                              go_meet
                              case rel => exact ⟨_, (decide (((rd_T53 l0 a1).f3) > 31)), (by first | rfl | (simp; done) | (simp [*]; done)), H', ⟨by have := HJ6.out; have := HJ16.out; first | omega | exact Nat.le_refl _⟩, ⟨by (with_reducible repeat (first | refine blk_drewN ?_ _ | refine blk_drew ?_ | refine blk_alloc ?_ _)); exact BK173.out⟩, ⟨by repeat (first | (with_reducible first | exact HB.out | apply below_alloc | apply pw_below_drewN | apply below_drew1 | refine below_set ?_ GE173.out) | exact HB.out)⟩⟩
                            · rw [if_neg c34] at H
                              have c34b0 : (((rd_T53 l0 a1).f0) == 116) = false := beq_eq_false_iff_ne.mpr c34
                              have c34b1 : (((rd_T53 l0 a1).f0) != 116) = true := bne_iff_ne.mpr c34
                              have H' := Aside0.mk H
                              clear H
                              obtain ⟨hcz36_0, hcz36_1, hcz36_2, hcz36_3⟩ := Mine.cells4 BK173.out
                              have hfz36_0 := blk_frozen BK173.out
                              go_wp2
                              go_meet
                              case rel => exact ⟨_, (false), (by first | rfl | (simp; done) | (simp [*]; done)), H', ⟨by have := HJ6.out; have := HJ16.out; first | omega | exact Nat.le_refl _⟩, ⟨by (with_reducible repeat (first | refine blk_drewN ?_ _ | refine blk_drew ?_ | refine blk_alloc ?_ _)); exact BK173.out⟩, ⟨by repeat (first | (with_reducible first | exact HB.out | apply below_alloc | apply pw_below_drewN | apply below_drew1 | refine below_set ?_ GE173.out) | exact HB.out)⟩⟩
                      · rw [if_neg c29] at H
                        have c29b0 : (((rd_T53 l0 a1).f0) == 52) = false := beq_eq_false_iff_ne.mpr c29
                        have c29b1 : (((rd_T53 l0 a1).f0) != 52) = true := bne_iff_ne.mpr c29
                        (first | rw [c29b0] | (simp only [i64_w, i32_w]; rw [c29b0]) | skip)
                        by_cases c37 : ((rd_T53 l0 a1).f0) = 100
                        · rw [if_pos c37] at H
                          have c37b0 : (((rd_T53 l0 a1).f0) == 100) = true := beq_iff_eq.mpr c37
                          have c37b1 : (((rd_T53 l0 a1).f0) != 100) = false := bne_eq_false_iff_eq.mpr c37
                          clear c37
                          have H' := Aside0.mk H
                          clear H
                          obtain ⟨hcz38_0, hcz38_1, hcz38_2, hcz38_3⟩ := Mine.cells4 BK173.out
                          have hfz38_0 := blk_frozen BK173.out
                          go_wp2
                          go_meet
                          case rel => exact ⟨_, (decide (((rd_T53 l0 a1).f3) > 31)), (by first | rfl | (simp; done) | (simp [*]; done)), H', ⟨by have := HJ6.out; have := HJ16.out; first | omega | exact Nat.le_refl _⟩, ⟨by (with_reducible repeat (first | refine blk_drewN ?_ _ | refine blk_drew ?_ | refine blk_alloc ?_ _)); exact BK173.out⟩, ⟨by repeat (first | (with_reducible first | exact HB.out | apply below_alloc | apply pw_below_drewN | apply below_drew1 | refine below_set ?_ GE173.out) | exact HB.out)⟩⟩
                        · rw [if_neg c37] at H
                          have c37b0 : (((rd_T53 l0 a1).f0) == 100) = false := beq_eq_false_iff_ne.mpr c37
                          have c37b1 : (((rd_T53 l0 a1).f0) != 100) = true := bne_iff_ne.mpr c37
                          by_cases c39 : ((rd_T53 l0 a1).f0) = 116
                          · rw [if_pos c39] at H
                            have c39b0 : (((rd_T53 l0 a1).f0) == 116) = true := beq_iff_eq.mpr c39
                            have c39b1 : (((rd_T53 l0 a1).f0) != 116) = false := bne_eq_false_iff_eq.mpr c39
                            clear c39
                            have H' := Aside0.mk H
                            clear H
                            obtain ⟨hcz40_0, hcz40_1, hcz40_2, hcz40_3⟩ := Mine.cells4 BK173.out
                            have hfz40_0 := blk_frozen BK173.out
                            go_wp2
                            go_meet
                            case rel => exact ⟨_, (decide (((rd_T53 l0 a1).f3) > 31)), (by first | rfl | (simp; done) | (simp [*]; done)), H', ⟨by have := HJ6.out; have := HJ16.out; first | omega | exact Nat.le_refl _⟩, ⟨by (with_reducible repeat (first | refine blk_drewN ?_ _ | refine blk_drew ?_ | refine blk_alloc ?_ _)); exact BK173.out⟩, ⟨by repeat (first | (with_reducible first | exact HB.out | apply below_alloc | apply pw_below_drewN | apply below_drew1 | refine below_set ?_ GE173.out) | exact HB.out)⟩⟩
                          · rw [if_neg c39] at H
                            have c39b0 : (((rd_T53 l0 a1).f0) == 116) = false := beq_eq_false_iff_ne.mpr c39
                            have c39b1 : (((rd_T53 l0 a1).f0) != 116) = true := bne_iff_ne.mpr c39
                            have H' := Aside0.mk H
                            clear H
                            obtain ⟨hcz41_0, hcz41_1, hcz41_2, hcz41_3⟩ := Mine.cells4 BK173.out
                            have hfz41_0 := blk_frozen BK173.out
                            go_wp2
                            go_meet
                            case rel => exact ⟨_, (false), (by first | rfl | (simp; done) | (simp [*]; done)), H', ⟨by have := HJ6.out; have := HJ16.out; first | omega | exact Nat.le_refl _⟩, ⟨by (with_reducible repeat (first | refine blk_drewN ?_ _ | refine blk_drew ?_ | refine blk_alloc ?_ _)); exact BK173.out⟩, ⟨by repeat (first | (with_reducible first | exact HB.out | apply below_alloc | apply pw_below_drewN | apply below_drew1 | refine below_set ?_ GE173.out) | exact HB.out)⟩⟩
                    case rest =>
                      clear HC28
                      try clear c1
                      try clear p1
                      try clear q1
                      try clear hx1
                      try clear c2
                      try clear p2
                      try clear c3
                      try clear c3b0
                      try clear c4
                      try clear c4b0
                      try clear c6
                      try clear c11
                      try clear c11b0
                      try clear c11b1
                      try clear c12
                      try clear c12b0
                      try clear c12b1
                      try clear c16
                      try clear p17
                      try clear q17
                      try clear hx17
                      try clear c18
                      try clear c18b0
                      try clear c18b1
                      try clear c20
                      try clear c20b0
                      try clear c20b1
                      try clear c22
                      try clear c22b0
                      try clear c22b1
                      try clear c24
                      try clear c24b0
                      try clear c24b1
                      try clear c27
                      try clear c29
                      try clear c29b0
                      try clear c29b1
                      try clear c30
                      try clear c30b0
                      try clear c30b1
                      try clear c32
                      try clear c32b0
                      try clear c32b1
                      try clear c34
                      try clear c34b0
                      try clear c34b1
                      try clear c37
                      try clear c37b0
                      try clear c37b1
                      try clear c39
                      try clear c39b0
                      try clear c39b1
                      try clear c40
                      try clear hcz13_0 hcz13_1 hcz13_2 hcz13_3
                      try clear hcz14_0 hcz14_1 hcz14_2 hcz14_3
                      try clear hcz15_0 hcz15_1 hcz15_2 hcz15_3
                      try clear hcz19_0 hcz19_1 hcz19_2 hcz19_3
                      try clear hcz21_0 hcz21_1 hcz21_2 hcz21_3
                      try clear hcz23_0 hcz23_1 hcz23_2 hcz23_3
                      try clear hcz25_0 hcz25_1 hcz25_2 hcz25_3
                      try clear hcz26_0 hcz26_1 hcz26_2 hcz26_3
                      try clear hcz31_0 hcz31_1 hcz31_2 hcz31_3
                      try clear hcz33_0 hcz33_1 hcz33_2 hcz33_3
                      try clear hcz35_0 hcz35_1 hcz35_2 hcz35_3
                      try clear hcz36_0 hcz36_1 hcz36_2 hcz36_3
                      try clear hcz38_0 hcz38_1 hcz38_2 hcz38_3
                      try clear hcz40_0 hcz40_1 hcz40_2 hcz40_3
                      try clear hcz41_0 hcz41_1 hcz41_2 hcz41_3
                      try clear hcz9_0 hcz9_1 hcz9_2 hcz9_3
                      try clear hfz13_0
                      try clear hfz14_0
                      try clear hfz15_0
                      try clear hfz19_0
                      try clear hfz21_0
                      try clear hfz23_0
                      try clear hfz25_0
                      try clear hfz26_0
                      try clear hfz31_0
                      try clear hfz33_0
                      try clear hfz35_0
                      try clear hfz36_0
                      try clear hfz38_0
                      try clear hfz40_0
                      try clear hfz41_0
                      try clear hfz9_0
                      try clear hx172_0
                      try clear hx172_1
                      try clear hx172_2
                      try clear hx172_3
                      try clear p1
                      try clear p17
                      try clear p172
                      try clear p2
                      try clear q1
                      try clear q17
                      try clear q172
                      obtain ⟨kq, x81_27, rfl, HA, HJ27, BK173, HB⟩ := hcut
                      cases kq with
                      | zero => exact absurd HA.out (by simp [fairleadref05_wrong.j2])
                      | succ kj27 =>
                        have H := HA.out
                        clear HA
                        simp only [fairleadref05_wrong.j2] at H
                        by_cases c42 : x81_27 = true
                        · subst c42
                          have H1 : (some 13) = some r := by rw [if_pos rfl] at H; exact H
                          clear H
                          have H := H1
                          clear H1
                          obtain rfl := Option.some.inj H
                          go_wp2
                          go_ret
                          exact ⟨by first | rfl | (simp [errW_none, errW_some] <;> rfl) | (simp [*, errW_none, errW_some] <;> rfl), by repeat (first | (with_reducible first | exact HB.out | apply below_alloc | apply pw_below_drewN | apply below_drew1 | refine below_set ?_ GE173.out) | exact HB.out)⟩
                        · replace c42 := Bool.eq_false_iff.mpr c42
                          subst c42
                          have H1 : (if ((rd_T53 l0 a1).f0) = 5 then (fairleadref05_wrong.j3 kj27 (IntKind.u64.wrap ((l0.length : Int))) (IntKind.u64.wrap ((IntKind.u64.wrap (a1)) + 1)) (decide ((IntKind.u64.wrap ((IntKind.u64.wrap ((IntKind.u64.wrap (a1)) + 1)) + (IntKind.u64.wrap (((rd_T53 l0 a1).f3))))) ≥ (IntKind.u64.wrap ((l0.length : Int))))) ((rd_T53 l0 a1).f0) ((rd_T53 l0 a1).f1) ((rd_T53 l0 a1).f2) ((rd_T53 l0 a1).f3)) else (fairleadref05_wrong.j3 kj27 (IntKind.u64.wrap ((l0.length : Int))) (IntKind.u64.wrap ((IntKind.u64.wrap (a1)) + 1)) false ((rd_T53 l0 a1).f0) ((rd_T53 l0 a1).f1) ((rd_T53 l0 a1).f2) ((rd_T53 l0 a1).f3))) = some r := by rw [if_neg (show ¬ (false = true) by decide)] at H; exact H
                          clear H
                          have H := H1
                          clear H1
                          have HC43 := Aside0.mk H
                          clear H
                          go_upto_region 12 with (fail)
                          go_cut [93] (fun v93 wc => ∃ (kq : Nat) (x93_42 : Bool), v93 = .bool x93_42 ∧ Aside0 (fairleadref05_wrong.j3 kq (IntKind.u64.wrap ((l0.length : Int))) (IntKind.u64.wrap ((IntKind.u64.wrap (a1)) + 1)) x93_42 ((rd_T53 l0 a1).f0) ((rd_T53 l0 a1).f1) ((rd_T53 l0 a1).f2) ((rd_T53 l0 a1).f3) = some r) ∧ Aside0 (kq ≤ kj27) ∧ Aside0 (wc.heap[gb173]? = some (.cells #[.int .u16 ((rd_T53 l0 a1).f0), .int .u8 ((rd_T53 l0 a1).f1), .int .u8 ((rd_T53 l0 a1).f2), .int .u32 ((rd_T53 l0 a1).f3)] 53 (0, 0))) ∧ Aside0 (Below w.heap.size w wc))
                          case first =>
                            have H := HC43.out
                            clear HC43
                            by_cases c44 : ((rd_T53 l0 a1).f0) = 5
                            · rw [if_pos c44] at H
                              have c44b0 : (((rd_T53 l0 a1).f0) == 5) = true := beq_iff_eq.mpr c44
                              have c44b1 : (((rd_T53 l0 a1).f0) != 5) = false := bne_eq_false_iff_eq.mpr c44
                              clear c44
                              (first | rw [c44b0] | (simp only [i64_w, i32_w]; rw [c44b0]) | skip)
                              have H' := Aside0.mk H
                              clear H
                              obtain ⟨hcz45_0, hcz45_1, hcz45_2, hcz45_3⟩ := Mine.cells4 BK173.out
                              have hfz45_0 := blk_frozen BK173.out
                              go_wp2
                              go_meet
                              case rel => exact ⟨_, (decide ((IntKind.u64.wrap ((IntKind.u64.wrap ((IntKind.u64.wrap (a1)) + 1)) + (IntKind.u64.wrap (((rd_T53 l0 a1).f3))))) ≥ (IntKind.u64.wrap ((l0.length : Int))))), (by first | rfl | (simp; done) | (simp [*]; done)), H', ⟨by have := HJ6.out; have := HJ16.out; have := HJ27.out; first | omega | exact Nat.le_refl _⟩, ⟨by (with_reducible repeat (first | refine blk_drewN ?_ _ | refine blk_drew ?_ | refine blk_alloc ?_ _)); exact BK173.out⟩, ⟨by repeat (first | (with_reducible first | exact HB.out | apply below_alloc | apply pw_below_drewN | apply below_drew1 | refine below_set ?_ GE173.out) | exact HB.out)⟩⟩
                            · rw [if_neg c44] at H
                              have c44b0 : (((rd_T53 l0 a1).f0) == 5) = false := beq_eq_false_iff_ne.mpr c44
                              have c44b1 : (((rd_T53 l0 a1).f0) != 5) = true := bne_iff_ne.mpr c44
                              (first | rw [c44b0] | (simp only [i64_w, i32_w]; rw [c44b0]) | skip)
                              have H' := Aside0.mk H
                              clear H
                              obtain ⟨hcz46_0, hcz46_1, hcz46_2, hcz46_3⟩ := Mine.cells4 BK173.out
                              have hfz46_0 := blk_frozen BK173.out
                              go_wp2
                              go_meet
                              case rel => exact ⟨_, (false), (by first | rfl | (simp; done) | (simp [*]; done)), H', ⟨by have := HJ6.out; have := HJ16.out; have := HJ27.out; first | omega | exact Nat.le_refl _⟩, ⟨by (with_reducible repeat (first | refine blk_drewN ?_ _ | refine blk_drew ?_ | refine blk_alloc ?_ _)); exact BK173.out⟩, ⟨by repeat (first | (with_reducible first | exact HB.out | apply below_alloc | apply pw_below_drewN | apply below_drew1 | refine below_set ?_ GE173.out) | exact HB.out)⟩⟩
                          case rest =>
                            clear HC43
                            try clear c1
                            try clear p1
                            try clear q1
                            try clear hx1
                            try clear c2
                            try clear p2
                            try clear c3
                            try clear c3b0
                            try clear c4
                            try clear c4b0
                            try clear c6
                            try clear c11
                            try clear c11b0
                            try clear c11b1
                            try clear c12
                            try clear c12b0
                            try clear c12b1
                            try clear c16
                            try clear p17
                            try clear q17
                            try clear hx17
                            try clear c18
                            try clear c18b0
                            try clear c18b1
                            try clear c20
                            try clear c20b0
                            try clear c20b1
                            try clear c22
                            try clear c22b0
                            try clear c22b1
                            try clear c24
                            try clear c24b0
                            try clear c24b1
                            try clear c27
                            try clear c29
                            try clear c29b0
                            try clear c29b1
                            try clear c30
                            try clear c30b0
                            try clear c30b1
                            try clear c32
                            try clear c32b0
                            try clear c32b1
                            try clear c34
                            try clear c34b0
                            try clear c34b1
                            try clear c37
                            try clear c37b0
                            try clear c37b1
                            try clear c39
                            try clear c39b0
                            try clear c39b1
                            try clear c40
                            try clear c42
                            try clear c44
                            try clear c44b0
                            try clear c44b1
                            try clear hcz13_0 hcz13_1 hcz13_2 hcz13_3
                            try clear hcz14_0 hcz14_1 hcz14_2 hcz14_3
                            try clear hcz15_0 hcz15_1 hcz15_2 hcz15_3
                            try clear hcz19_0 hcz19_1 hcz19_2 hcz19_3
                            try clear hcz21_0 hcz21_1 hcz21_2 hcz21_3
                            try clear hcz23_0 hcz23_1 hcz23_2 hcz23_3
                            try clear hcz25_0 hcz25_1 hcz25_2 hcz25_3
                            try clear hcz26_0 hcz26_1 hcz26_2 hcz26_3
                            try clear hcz31_0 hcz31_1 hcz31_2 hcz31_3
                            try clear hcz33_0 hcz33_1 hcz33_2 hcz33_3
                            try clear hcz35_0 hcz35_1 hcz35_2 hcz35_3
                            try clear hcz36_0 hcz36_1 hcz36_2 hcz36_3
                            try clear hcz38_0 hcz38_1 hcz38_2 hcz38_3
                            try clear hcz40_0 hcz40_1 hcz40_2 hcz40_3
                            try clear hcz41_0 hcz41_1 hcz41_2 hcz41_3
                            try clear hcz45_0 hcz45_1 hcz45_2 hcz45_3
                            try clear hcz46_0 hcz46_1 hcz46_2 hcz46_3
                            try clear hcz9_0 hcz9_1 hcz9_2 hcz9_3
                            try clear hfz13_0
                            try clear hfz14_0
                            try clear hfz15_0
                            try clear hfz19_0
                            try clear hfz21_0
                            try clear hfz23_0
                            try clear hfz25_0
                            try clear hfz26_0
                            try clear hfz31_0
                            try clear hfz33_0
                            try clear hfz35_0
                            try clear hfz36_0
                            try clear hfz38_0
                            try clear hfz40_0
                            try clear hfz41_0
                            try clear hfz45_0
                            try clear hfz46_0
                            try clear hfz9_0
                            try clear hx172_0
                            try clear hx172_1
                            try clear hx172_2
                            try clear hx172_3
                            try clear p1
                            try clear p17
                            try clear p172
                            try clear p2
                            try clear q1
                            try clear q17
                            try clear q172
                            obtain ⟨kq, x93_42, rfl, HA, HJ42, BK173, HB⟩ := hcut
                            cases kq with
                            | zero => exact absurd HA.out (by simp [fairleadref05_wrong.j3])
                            | succ kj42 =>
                              have H := HA.out
                              clear HA
                              simp only [fairleadref05_wrong.j3] at H
                              by_cases c47 : x93_42 = true
                              · subst c47
                                have H1 : (some 14) = some r := by rw [if_pos rfl] at H; exact H
                                clear H
                                have H := H1
                                clear H1
                                obtain rfl := Option.some.inj H
                                go_wp2
                                go_ret
                                exact ⟨by first | rfl | (simp [errW_none, errW_some] <;> rfl) | (simp [*, errW_none, errW_some] <;> rfl), by repeat (first | (with_reducible first | exact HB.out | apply below_alloc | apply pw_below_drewN | apply below_drew1 | refine below_set ?_ GE173.out) | exact HB.out)⟩
                              · replace c47 := Bool.eq_false_iff.mpr c47
                                subst c47
                                have H1 : (if ((rd_T53 l0 a1).f0) = 5 then (fairleadref05_wrong.j4 kj42 (IntKind.u64.wrap ((l0.length : Int))) (IntKind.u64.wrap ((IntKind.u64.wrap (a1)) + 1)) false ((rd_T53 l0 a1).f0) ((rd_T53 l0 a1).f1) ((rd_T53 l0 a1).f2) ((rd_T53 l0 a1).f3)) else ((fairleadref03_Jumps.f ((rd_T53 l0 a1).f0)).bind fun t175 => (if t175 = true then (if (IntKind.u64.wrap ((IntKind.u64.wrap ((IntKind.u64.wrap (a1)) + 1)) + (IntKind.u64.wrap (((rd_T53 l0 a1).f1))))) ≥ (IntKind.u64.wrap ((l0.length : Int))) then (fairleadref05_wrong.j4 kj42 (IntKind.u64.wrap ((l0.length : Int))) (IntKind.u64.wrap ((IntKind.u64.wrap (a1)) + 1)) true ((rd_T53 l0 a1).f0) ((rd_T53 l0 a1).f1) ((rd_T53 l0 a1).f2) ((rd_T53 l0 a1).f3)) else (fairleadref05_wrong.j4 kj42 (IntKind.u64.wrap ((l0.length : Int))) (IntKind.u64.wrap ((IntKind.u64.wrap (a1)) + 1)) (decide ((IntKind.u64.wrap ((IntKind.u64.wrap ((IntKind.u64.wrap (a1)) + 1)) + (IntKind.u64.wrap (((rd_T53 l0 a1).f2))))) ≥ (IntKind.u64.wrap ((l0.length : Int))))) ((rd_T53 l0 a1).f0) ((rd_T53 l0 a1).f1) ((rd_T53 l0 a1).f2) ((rd_T53 l0 a1).f3))) else (fairleadref05_wrong.j4 kj42 (IntKind.u64.wrap ((l0.length : Int))) (IntKind.u64.wrap ((IntKind.u64.wrap (a1)) + 1)) false ((rd_T53 l0 a1).f0) ((rd_T53 l0 a1).f1) ((rd_T53 l0 a1).f2) ((rd_T53 l0 a1).f3))))) = some r := by rw [if_neg (show ¬ (false = true) by decide)] at H; exact H
                                clear H
                                have H := H1
                                clear H1
                                have HC48 := Aside0.mk H
                                clear H
                                go_upto_region 14 with (fail)
                                go_cut [119] (fun v119 wc => ∃ (kq : Nat) (x119_47 : Bool), v119 = .bool x119_47 ∧ Aside0 (fairleadref05_wrong.j4 kq (IntKind.u64.wrap ((l0.length : Int))) (IntKind.u64.wrap ((IntKind.u64.wrap (a1)) + 1)) x119_47 ((rd_T53 l0 a1).f0) ((rd_T53 l0 a1).f1) ((rd_T53 l0 a1).f2) ((rd_T53 l0 a1).f3) = some r) ∧ Aside0 (kq ≤ kj42) ∧ Aside0 (wc.heap[gb173]? = some (.cells #[.int .u16 ((rd_T53 l0 a1).f0), .int .u8 ((rd_T53 l0 a1).f1), .int .u8 ((rd_T53 l0 a1).f2), .int .u32 ((rd_T53 l0 a1).f3)] 53 (0, 0))) ∧ Aside0 (Below w.heap.size w wc))
                                case first =>
                                  have H := HC48.out
                                  clear HC48
                                  by_cases c49 : ((rd_T53 l0 a1).f0) = 5
                                  · rw [if_pos c49] at H
                                    have c49b0 : (((rd_T53 l0 a1).f0) == 5) = true := beq_iff_eq.mpr c49
                                    have c49b1 : (((rd_T53 l0 a1).f0) != 5) = false := bne_eq_false_iff_eq.mpr c49
                                    clear c49
                                    (first | rw [c49b0] | (simp only [i64_w, i32_w]; rw [c49b0]) | skip)
                                    have H' := Aside0.mk H
                                    clear H
                                    obtain ⟨hcz50_0, hcz50_1, hcz50_2, hcz50_3⟩ := Mine.cells4 BK173.out
                                    have hfz50_0 := blk_frozen BK173.out
                                    go_wp2
                                    go_meet
                                    case rel => exact ⟨_, (false), (by first | rfl | (simp; done) | (simp [*]; done)), H', ⟨by have := HJ6.out; have := HJ16.out; have := HJ27.out; have := HJ42.out; first | omega | exact Nat.le_refl _⟩, ⟨by (with_reducible repeat (first | refine blk_drewN ?_ _ | refine blk_drew ?_ | refine blk_alloc ?_ _)); exact BK173.out⟩, ⟨by repeat (first | (with_reducible first | exact HB.out | apply below_alloc | apply pw_below_drewN | apply below_drew1 | refine below_set ?_ GE173.out) | exact HB.out)⟩⟩
                                  · rw [if_neg c49] at H
                                    have c49b0 : (((rd_T53 l0 a1).f0) == 5) = false := beq_eq_false_iff_ne.mpr c49
                                    have c49b1 : (((rd_T53 l0 a1).f0) != 5) = true := bne_iff_ne.mpr c49
                                    (first | rw [c49b0] | (simp only [i64_w, i32_w]; rw [c49b0]) | skip)
                                    replace H := Option.bind_eq_some_iff.mp H
                                    obtain ⟨t175, A510, H⟩ := H
                                    replace H : (if t175 = true then (if (IntKind.u64.wrap ((IntKind.u64.wrap ((IntKind.u64.wrap (a1)) + 1)) + (IntKind.u64.wrap (((rd_T53 l0 a1).f1))))) ≥ (IntKind.u64.wrap ((l0.length : Int))) then (fairleadref05_wrong.j4 kj42 (IntKind.u64.wrap ((l0.length : Int))) (IntKind.u64.wrap ((IntKind.u64.wrap (a1)) + 1)) true ((rd_T53 l0 a1).f0) ((rd_T53 l0 a1).f1) ((rd_T53 l0 a1).f2) ((rd_T53 l0 a1).f3)) else (fairleadref05_wrong.j4 kj42 (IntKind.u64.wrap ((l0.length : Int))) (IntKind.u64.wrap ((IntKind.u64.wrap (a1)) + 1)) (decide ((IntKind.u64.wrap ((IntKind.u64.wrap ((IntKind.u64.wrap (a1)) + 1)) + (IntKind.u64.wrap (((rd_T53 l0 a1).f2))))) ≥ (IntKind.u64.wrap ((l0.length : Int))))) ((rd_T53 l0 a1).f0) ((rd_T53 l0 a1).f1) ((rd_T53 l0 a1).f2) ((rd_T53 l0 a1).f3))) else (fairleadref05_wrong.j4 kj42 (IntKind.u64.wrap ((l0.length : Int))) (IntKind.u64.wrap ((IntKind.u64.wrap (a1)) + 1)) false ((rd_T53 l0 a1).f0) ((rd_T53 l0 a1).f1) ((rd_T53 l0 a1).f2) ((rd_T53 l0 a1).f3))) = some r := H
                                    have A51 := Aside0.mk A510
                                    clear A510
                                    by_cases c52 : t175 = true
                                    · subst c52
                                      have H1 : (if (IntKind.u64.wrap ((IntKind.u64.wrap ((IntKind.u64.wrap (a1)) + 1)) + (IntKind.u64.wrap (((rd_T53 l0 a1).f1))))) ≥ (IntKind.u64.wrap ((l0.length : Int))) then (fairleadref05_wrong.j4 kj42 (IntKind.u64.wrap ((l0.length : Int))) (IntKind.u64.wrap ((IntKind.u64.wrap (a1)) + 1)) true ((rd_T53 l0 a1).f0) ((rd_T53 l0 a1).f1) ((rd_T53 l0 a1).f2) ((rd_T53 l0 a1).f3)) else (fairleadref05_wrong.j4 kj42 (IntKind.u64.wrap ((l0.length : Int))) (IntKind.u64.wrap ((IntKind.u64.wrap (a1)) + 1)) (decide ((IntKind.u64.wrap ((IntKind.u64.wrap ((IntKind.u64.wrap (a1)) + 1)) + (IntKind.u64.wrap (((rd_T53 l0 a1).f2))))) ≥ (IntKind.u64.wrap ((l0.length : Int))))) ((rd_T53 l0 a1).f0) ((rd_T53 l0 a1).f1) ((rd_T53 l0 a1).f2) ((rd_T53 l0 a1).f3))) = some r := by rw [if_pos rfl] at H; exact H
                                      clear H
                                      have H := H1
                                      clear H1
                                      by_cases c53 : (IntKind.u64.wrap ((IntKind.u64.wrap ((IntKind.u64.wrap (a1)) + 1)) + (IntKind.u64.wrap (((rd_T53 l0 a1).f1))))) ≥ (IntKind.u64.wrap ((l0.length : Int)))
                                      · rw [if_pos c53] at H
                                        have c53b0 : decide ((IntKind.u64.wrap ((l0.length : Int))) ≤ (IntKind.u64.wrap ((IntKind.u64.wrap ((IntKind.u64.wrap (a1)) + 1)) + (IntKind.u64.wrap (((rd_T53 l0 a1).f1)))))) = true := decide_eq_true c53
                                        clear c53
                                        have H' := Aside0.mk H
                                        clear H
                                        obtain ⟨hcz54_0, hcz54_1, hcz54_2, hcz54_3⟩ := Mine.cells4 BK173.out
                                        have hfz54_0 := blk_frozen BK173.out
                                        go_wp2_with (first | (go_at_call 41; (with_reducible refine (fairleadref03_Jumps.calls ((rd_T53 l0 a1).f0) true _ A51.out).mono ?_); rintro e w' ⟨rfl, ⟨nd, rfl⟩⟩))
                                        go_meet
                                        case rel => exact ⟨_, (true), (by first | rfl | (simp; done) | (simp [*]; done)), H', ⟨by have := HJ6.out; have := HJ16.out; have := HJ27.out; have := HJ42.out; first | omega | exact Nat.le_refl _⟩, ⟨by (with_reducible repeat (first | refine blk_drewN ?_ _ | refine blk_drew ?_ | refine blk_alloc ?_ _)); exact BK173.out⟩, ⟨by repeat (first | (with_reducible first | exact HB.out | apply below_alloc | apply pw_below_drewN | apply below_drew1 | refine below_set ?_ GE173.out) | exact HB.out)⟩⟩
                                      · rw [if_neg c53] at H
                                        have c53b0 : decide ((IntKind.u64.wrap ((l0.length : Int))) ≤ (IntKind.u64.wrap ((IntKind.u64.wrap ((IntKind.u64.wrap (a1)) + 1)) + (IntKind.u64.wrap (((rd_T53 l0 a1).f1)))))) = false := decide_eq_false c53
                                        clear c53
                                        have H' := Aside0.mk H
                                        clear H
                                        obtain ⟨hcz55_0, hcz55_1, hcz55_2, hcz55_3⟩ := Mine.cells4 BK173.out
                                        have hfz55_0 := blk_frozen BK173.out
                                        go_wp2_with (first | (go_at_call 41; (with_reducible refine (fairleadref03_Jumps.calls ((rd_T53 l0 a1).f0) true _ A51.out).mono ?_); rintro e w' ⟨rfl, ⟨nd, rfl⟩⟩))
                                        go_meet
                                        case rel => exact ⟨_, (decide ((IntKind.u64.wrap ((IntKind.u64.wrap ((IntKind.u64.wrap (a1)) + 1)) + (IntKind.u64.wrap (((rd_T53 l0 a1).f2))))) ≥ (IntKind.u64.wrap ((l0.length : Int))))), (by first | rfl | (simp; done) | (simp [*]; done)), H', ⟨by have := HJ6.out; have := HJ16.out; have := HJ27.out; have := HJ42.out; first | omega | exact Nat.le_refl _⟩, ⟨by (with_reducible repeat (first | refine blk_drewN ?_ _ | refine blk_drew ?_ | refine blk_alloc ?_ _)); exact BK173.out⟩, ⟨by repeat (first | (with_reducible first | exact HB.out | apply below_alloc | apply pw_below_drewN | apply below_drew1 | refine below_set ?_ GE173.out) | exact HB.out)⟩⟩
                                    · replace c52 := Bool.eq_false_iff.mpr c52
                                      subst c52
                                      have H1 : (fairleadref05_wrong.j4 kj42 (IntKind.u64.wrap ((l0.length : Int))) (IntKind.u64.wrap ((IntKind.u64.wrap (a1)) + 1)) false ((rd_T53 l0 a1).f0) ((rd_T53 l0 a1).f1) ((rd_T53 l0 a1).f2) ((rd_T53 l0 a1).f3)) = some r := by rw [if_neg (show ¬ (false = true) by decide)] at H; exact H
                                      clear H
                                      have H := H1
                                      clear H1
                                      have H' := Aside0.mk H
                                      clear H
                                      obtain ⟨hcz56_0, hcz56_1, hcz56_2, hcz56_3⟩ := Mine.cells4 BK173.out
                                      have hfz56_0 := blk_frozen BK173.out
                                      go_wp2_with (first | (go_at_call 41; (with_reducible refine (fairleadref03_Jumps.calls ((rd_T53 l0 a1).f0) false _ A51.out).mono ?_); rintro e w' ⟨rfl, ⟨nd, rfl⟩⟩))
                                      go_meet
                                      case rel => exact ⟨_, (false), (by first | rfl | (simp; done) | (simp [*]; done)), H', ⟨by have := HJ6.out; have := HJ16.out; have := HJ27.out; have := HJ42.out; first | omega | exact Nat.le_refl _⟩, ⟨by (with_reducible repeat (first | refine blk_drewN ?_ _ | refine blk_drew ?_ | refine blk_alloc ?_ _)); exact BK173.out⟩, ⟨by repeat (first | (with_reducible first | exact HB.out | apply below_alloc | apply pw_below_drewN | apply below_drew1 | refine below_set ?_ GE173.out) | exact HB.out)⟩⟩
                                case rest =>
                                  clear HC48
                                  try clear c1
                                  try clear p1
                                  try clear q1
                                  try clear hx1
                                  try clear c2
                                  try clear p2
                                  try clear c3
                                  try clear c3b0
                                  try clear c4
                                  try clear c4b0
                                  try clear c5
                                  try clear c6
                                  try clear c11
                                  try clear c11b0
                                  try clear c11b1
                                  try clear c12
                                  try clear c12b0
                                  try clear c12b1
                                  try clear c16
                                  try clear p17
                                  try clear q17
                                  try clear hx17
                                  try clear c18
                                  try clear c18b0
                                  try clear c18b1
                                  try clear c20
                                  try clear c20b0
                                  try clear c20b1
                                  try clear c22
                                  try clear c22b0
                                  try clear c22b1
                                  try clear c24
                                  try clear c24b0
                                  try clear c24b1
                                  try clear c27
                                  try clear c29
                                  try clear c29b0
                                  try clear c29b1
                                  try clear c30
                                  try clear c30b0
                                  try clear c30b1
                                  try clear c32
                                  try clear c32b0
                                  try clear c32b1
                                  try clear c34
                                  try clear c34b0
                                  try clear c34b1
                                  try clear c37
                                  try clear c37b0
                                  try clear c37b1
                                  try clear c39
                                  try clear c39b0
                                  try clear c39b1
                                  try clear c40
                                  try clear c42
                                  try clear c44
                                  try clear c44b0
                                  try clear c44b1
                                  try clear c47
                                  try clear c49
                                  try clear c49b0
                                  try clear c49b1
                                  try clear c52
                                  try clear c53
                                  try clear c53b0
                                  try clear hcz13_0 hcz13_1 hcz13_2 hcz13_3
                                  try clear hcz14_0 hcz14_1 hcz14_2 hcz14_3
                                  try clear hcz15_0 hcz15_1 hcz15_2 hcz15_3
                                  try clear hcz19_0 hcz19_1 hcz19_2 hcz19_3
                                  try clear hcz21_0 hcz21_1 hcz21_2 hcz21_3
                                  try clear hcz23_0 hcz23_1 hcz23_2 hcz23_3
                                  try clear hcz25_0 hcz25_1 hcz25_2 hcz25_3
                                  try clear hcz26_0 hcz26_1 hcz26_2 hcz26_3
                                  try clear hcz31_0 hcz31_1 hcz31_2 hcz31_3
                                  try clear hcz33_0 hcz33_1 hcz33_2 hcz33_3
                                  try clear hcz35_0 hcz35_1 hcz35_2 hcz35_3
                                  try clear hcz36_0 hcz36_1 hcz36_2 hcz36_3
                                  try clear hcz38_0 hcz38_1 hcz38_2 hcz38_3
                                  try clear hcz40_0 hcz40_1 hcz40_2 hcz40_3
                                  try clear hcz41_0 hcz41_1 hcz41_2 hcz41_3
                                  try clear hcz45_0 hcz45_1 hcz45_2 hcz45_3
                                  try clear hcz46_0 hcz46_1 hcz46_2 hcz46_3
                                  try clear hcz50_0 hcz50_1 hcz50_2 hcz50_3
                                  try clear hcz54_0 hcz54_1 hcz54_2 hcz54_3
                                  try clear hcz55_0 hcz55_1 hcz55_2 hcz55_3
                                  try clear hcz56_0 hcz56_1 hcz56_2 hcz56_3
                                  try clear hcz9_0 hcz9_1 hcz9_2 hcz9_3
                                  try clear hfz13_0
                                  try clear hfz14_0
                                  try clear hfz15_0
                                  try clear hfz19_0
                                  try clear hfz21_0
                                  try clear hfz23_0
                                  try clear hfz25_0
                                  try clear hfz26_0
                                  try clear hfz31_0
                                  try clear hfz33_0
                                  try clear hfz35_0
                                  try clear hfz36_0
                                  try clear hfz38_0
                                  try clear hfz40_0
                                  try clear hfz41_0
                                  try clear hfz45_0
                                  try clear hfz46_0
                                  try clear hfz50_0
                                  try clear hfz54_0
                                  try clear hfz55_0
                                  try clear hfz56_0
                                  try clear hfz9_0
                                  try clear hx172_0
                                  try clear hx172_1
                                  try clear hx172_2
                                  try clear hx172_3
                                  try clear p1
                                  try clear p17
                                  try clear p172
                                  try clear p2
                                  try clear q1
                                  try clear q17
                                  try clear q172
                                  obtain ⟨kq, x119_47, rfl, HA, HJ47, BK173, HB⟩ := hcut
                                  cases kq with
                                  | zero => exact absurd HA.out (by simp [fairleadref05_wrong.j4])
                                  | succ kj47 =>
                                    have H := HA.out
                                    clear HA
                                    simp only [fairleadref05_wrong.j4] at H
                                    by_cases c57 : x119_47 = true
                                    · subst c57
                                      have H1 : (some 14) = some r := by rw [if_pos rfl] at H; exact H
                                      clear H
                                      have H := H1
                                      clear H1
                                      obtain rfl := Option.some.inj H
                                      go_wp2
                                      go_ret
                                      exact ⟨by first | rfl | (simp [errW_none, errW_some] <;> rfl) | (simp [*, errW_none, errW_some] <;> rfl), by repeat (first | (with_reducible first | exact HB.out | apply below_alloc | apply pw_below_drewN | apply below_drew1 | refine below_set ?_ GE173.out) | exact HB.out)⟩
                                    · replace c57 := Bool.eq_false_iff.mpr c57
                                      subst c57
                                      have H1 : (if (IntKind.u64.wrap ((IntKind.u64.wrap (a1)) + 1)) = (IntKind.u64.wrap ((l0.length : Int))) then ((fairleadref03_Ends.f ((rd_T53 l0 a1).f0)).bind fun t176 => (if t176 = true then (some 0) else (some 15))) else (some 0)) = some r := by rw [if_neg (show ¬ (false = true) by decide)] at H; exact H
                                      clear H
                                      have H := H1
                                      clear H1
                                      by_cases c58 : (IntKind.u64.wrap ((IntKind.u64.wrap (a1)) + 1)) = (IntKind.u64.wrap ((l0.length : Int)))
                                      · rw [if_pos c58] at H
                                        have c58b0 : ((IntKind.u64.wrap ((IntKind.u64.wrap (a1)) + 1)) == (IntKind.u64.wrap ((l0.length : Int)))) = true := beq_iff_eq.mpr c58
                                        have c58b1 : ((IntKind.u64.wrap ((IntKind.u64.wrap (a1)) + 1)) != (IntKind.u64.wrap ((l0.length : Int)))) = false := bne_eq_false_iff_eq.mpr c58
                                        clear c58
                                        replace H := Option.bind_eq_some_iff.mp H
                                        obtain ⟨t176, A590, H⟩ := H
                                        replace H : (if t176 = true then (some 0) else (some 15)) = some r := H
                                        have A59 := Aside0.mk A590
                                        clear A590
                                        by_cases c60 : t176 = true
                                        · subst c60
                                          have H1 : (some 0) = some r := by rw [if_pos rfl] at H; exact H
                                          clear H
                                          have H := H1
                                          clear H1
                                          obtain rfl := Option.some.inj H
                                          obtain ⟨hcz61_0, hcz61_1, hcz61_2, hcz61_3⟩ := Mine.cells4 BK173.out
                                          have hfz61_0 := blk_frozen BK173.out
                                          go_wp2_with (first | (go_at_call 42; (with_reducible refine (fairleadref03_Ends.calls ((rd_T53 l0 a1).f0) true _ A59.out).mono ?_); rintro e w' ⟨rfl, ⟨nd, rfl⟩⟩))
                                          go_ret
                                          exact ⟨by first | rfl | (simp [errW_none, errW_some] <;> rfl) | (simp [*, errW_none, errW_some] <;> rfl), by repeat (first | (with_reducible first | exact HB.out | apply below_alloc | apply pw_below_drewN | apply below_drew1 | refine below_set ?_ GE173.out) | exact HB.out)⟩
                                        · replace c60 := Bool.eq_false_iff.mpr c60
                                          subst c60
                                          have H1 : (some 15) = some r := by rw [if_neg (show ¬ (false = true) by decide)] at H; exact H
                                          clear H
                                          have H := H1
                                          clear H1
                                          obtain rfl := Option.some.inj H
                                          obtain ⟨hcz62_0, hcz62_1, hcz62_2, hcz62_3⟩ := Mine.cells4 BK173.out
                                          have hfz62_0 := blk_frozen BK173.out
                                          go_wp2_with (first | (go_at_call 42; (with_reducible refine (fairleadref03_Ends.calls ((rd_T53 l0 a1).f0) false _ A59.out).mono ?_); rintro e w' ⟨rfl, ⟨nd, rfl⟩⟩))
                                          go_ret
                                          exact ⟨by first | rfl | (simp [errW_none, errW_some] <;> rfl) | (simp [*, errW_none, errW_some] <;> rfl), by repeat (first | (with_reducible first | exact HB.out | apply below_alloc | apply pw_below_drewN | apply below_drew1 | refine below_set ?_ GE173.out) | exact HB.out)⟩
                                      · rw [if_neg c58] at H
                                        have c58b0 : ((IntKind.u64.wrap ((IntKind.u64.wrap (a1)) + 1)) == (IntKind.u64.wrap ((l0.length : Int)))) = false := beq_eq_false_iff_ne.mpr c58
                                        have c58b1 : ((IntKind.u64.wrap ((IntKind.u64.wrap (a1)) + 1)) != (IntKind.u64.wrap ((l0.length : Int)))) = true := bne_iff_ne.mpr c58
                                        obtain rfl := Option.some.inj H
                                        go_wp2
                                        go_ret
                                        exact ⟨by first | rfl | (simp [errW_none, errW_some] <;> rfl) | (simp [*, errW_none, errW_some] <;> rfl), by repeat (first | (with_reducible first | exact HB.out | apply below_alloc | apply pw_below_drewN | apply below_drew1 | refine below_set ?_ GE173.out) | exact HB.out)⟩
      · replace c6 := Bool.eq_false_iff.mpr c6
        subst c6
        have H1 : (some 11) = some r := by rw [if_neg (show ¬ (false = true) by decide)] at H; exact H
        clear H
        have H := H1
        clear H1
        obtain rfl := Option.some.inj H
        have p172 : 0 ≤ (a1 : Int) := of_decide_eq_true (by first | (with_reducible assumption) | assumption)
        have q172 : a1 < (l0.length : Int) := of_decide_eq_true (by first | (with_reducible assumption) | assumption)
        obtain ⟨ad172, e172, hx172_0, hx172_1, hx172_2, hx172_3⟩ := at_T53 HR0.out a1 p172 q172
        cases e172
        replace p172 := eq_true p172
        replace q172 := eq_true q172
        go_enter Try.func34, Try.ntmps34
        go_wp2_with (first | ((with_reducible refine gate_dst (N := 5) rfl ?_); refine box_event ?hg (N := 5) ?hd (cs := #[.int .u16 0, .int .u8 0, .int .u8 0, .int .u32 0]) (t := 53) ?hr ?_; (case hd => rfl); (case hg => rfl); (case hr => first | (go_simp; done) | (go_simp; rfl)); intro gb173 hg w63 hbox hb; have n0_ := Aside0.mk (below_step (by repeat (first | (with_reducible first | exact HB.out | apply below_alloc | apply pw_below_drewN | apply below_drew1) | exact HB.out)) hb); have n1_ := Aside0.mk (hbox); have n2_ := Aside0.mk ((by rw [hg]; exact (below_size (by repeat (first | (with_reducible first | exact HB.out | apply below_alloc | apply pw_below_drewN | apply below_drew1) | exact HB.out))) : w.heap.size ≤ gb173)); have n3_ := Aside0.mk ((by rw [hg]; exact (below_size (by repeat (first | (with_reducible first | exact HB.out | apply below_alloc | apply pw_below_drewN | apply below_drew1) | exact HB.out))) : w.heap.size ≤ gb173)); clear HB; have HB := n0_; have BK173 := n1_; have GW173 := n2_; have GE173 := n3_; clear n0_ n1_ n2_ n3_; clear hb hbox hg; obtain ⟨hcz64_0, hcz64_1, hcz64_2, hcz64_3⟩ := Mine.cells4 BK173.out; have hfz64_0 := blk_frozen BK173.out) | ((with_reducible refine gate_callee (f := 40) rfl ?_); refine goesL_ (some 20) rfl rfl Try.func40 (by kernel_rfl) rfl #[.int .u16 ((rd_T53 l0 a1).f0)] rfl (by (try simp only [List.map_toArray, List.map_cons, List.map_nil]); first | done | rfl | (simp only [List.length_drop, List.length_take]; rfl)) ?_; (with_reducible refine (fairleadref03_Known.calls k ((rd_T53 l0 a1).f0) false _ A5.out).mono ?_); rintro e w65 ⟨rfl, hb⟩; refine ⟨_, rfl, ?_⟩; have n0_ := Aside0.mk (blk_below (g := gb173) (o := .cells #[.int .u16 ((rd_T53 l0 a1).f0), .int .u8 ((rd_T53 l0 a1).f1), .int .u8 ((rd_T53 l0 a1).f2), .int .u32 ((rd_T53 l0 a1).f3)] 53 (0, 0)) (by (with_reducible repeat (first | refine blk_drewN ?_ _ | refine blk_drew ?_ | refine blk_alloc ?_ _)); refine blk_put (cs := #[.int .u16 ((rd_T53 l0 a1).f0), .int .u8 ((rd_T53 l0 a1).f1), .int .u8 ((rd_T53 l0 a1).f2), .int .u32 0]) ?_ 3 _ rfl; (with_reducible repeat (first | refine blk_drewN ?_ _ | refine blk_drew ?_ | refine blk_alloc ?_ _)); refine blk_put (cs := #[.int .u16 ((rd_T53 l0 a1).f0), .int .u8 ((rd_T53 l0 a1).f1), .int .u8 0, .int .u32 0]) ?_ 2 _ rfl; (with_reducible repeat (first | refine blk_drewN ?_ _ | refine blk_drew ?_ | refine blk_alloc ?_ _)); refine blk_put (cs := #[.int .u16 ((rd_T53 l0 a1).f0), .int .u8 0, .int .u8 0, .int .u32 0]) ?_ 1 _ rfl; (with_reducible repeat (first | refine blk_drewN ?_ _ | refine blk_drew ?_ | refine blk_alloc ?_ _)); refine blk_put (cs := #[.int .u16 0, .int .u8 0, .int .u8 0, .int .u32 0]) ?_ 0 _ rfl; (with_reducible repeat (first | refine blk_drewN ?_ _ | refine blk_drew ?_ | refine blk_alloc ?_ _)); exact BK173.out) hb); have n1_ := Aside0.mk (below_step (by repeat (first | (with_reducible first | exact HB.out | apply below_alloc | apply pw_below_drewN | apply below_drew1 | refine below_set ?_ GE173.out) | exact HB.out)) hb); clear BK173; clear HB; have BK173 := n0_; have HB := n1_; clear n0_ n1_; (try clear hb); (try clear hb2); (try clear hk); (try clear hi)))
        go_ret
        exact ⟨by first | rfl | (simp [errW_none, errW_some] <;> rfl) | (simp [*, errW_none, errW_some] <;> rfl), by repeat (first | (with_reducible first | exact HB.out | apply below_alloc | apply pw_below_drewN | apply below_drew1 | refine below_set ?_ GE173.out) | exact HB.out)⟩
    · rw [if_neg c4] at H
      exact absurd H (by simp)
  · rw [if_neg c3] at H
    exact absurd H (by simp)
end Go.Proofs.Yteojfjlklikaoaa.M
