-- Laid by a program (wip/tools/myprint.py) out of the loaded program's own print: for each Go function a Lean function and the proof of its contract.
import Derived.Test.YteojfjlklikaoaaP5Mx0
import Derived.Test.YteojfjlklikaoaaP5Mx1
namespace Go.Proofs.Yteojfjlklikaoaa.M
open Go.RowKit Go.Proofs.YteojfjlklikaoaaW.PrintWords Go.Proofs.YteojfjlklikaoaaW.PrintLast Go.Proofs.YteojfjlklikaoaaW.PrintMore
attribute [local go_sem] max2_int min2_int max_two min_two max_three min_three max_four min_four   -- for this text's walks alone
set_option linter.unusedVariables false
set_option linter.unusedSimpArgs false
mutual
def check_wrong.j0 : Nat → Int → Bool → Int → Int → Int → Int → Option (Int)
  | 0, _, _, _, _, _, _ => none
  | k + 1, x1, x10, Z0, Z1, Z2, Z3 => if x10 = true then (some 12) else (if Z0 = 96 then (check_wrong.j1 k x1 (decide (Z3 ≥ 16)) Z0 Z1 Z2 Z3) else (if Z0 = 97 then (check_wrong.j1 k x1 (decide (Z3 ≥ 16)) Z0 Z1 Z2 Z3) else (if Z0 = 2 then (check_wrong.j1 k x1 (decide (Z3 ≥ 16)) Z0 Z1 Z2 Z3) else (if Z0 = 3 then (check_wrong.j1 k x1 (decide (Z3 ≥ 16)) Z0 Z1 Z2 Z3) else (check_wrong.j1 k x1 false Z0 Z1 Z2 Z3)))))
def check_wrong.j1 : Nat → Int → Bool → Int → Int → Int → Int → Option (Int)
  | 0, _, _, _, _, _, _ => none
  | k + 1, x1, x25, Z0, Z1, Z2, Z3 => if x25 = true then (some 12) else (if Z0 = 52 then (check_wrong.j2 k x1 (Z3 == 0) Z0 Z1 Z2 Z3) else (check_wrong.j2 k x1 false Z0 Z1 Z2 Z3))
def check_wrong.j2 : Nat → Int → Bool → Int → Int → Int → Int → Option (Int)
  | 0, _, _, _, _, _, _ => none
  | k + 1, x1, x49, Z0, Z1, Z2, Z3 => if x49 = true then (check_wrong.j3 k x1 x49 Z0 Z1 Z2 Z3) else (if Z0 = 100 then (check_wrong.j3 k x1 (decide (Z3 > 31)) Z0 Z1 Z2 Z3) else (if Z0 = 116 then (check_wrong.j3 k x1 (decide (Z3 > 31)) Z0 Z1 Z2 Z3) else (check_wrong.j3 k x1 false Z0 Z1 Z2 Z3)))
def check_wrong.j3 : Nat → Int → Bool → Int → Int → Int → Int → Option (Int)
  | 0, _, _, _, _, _, _ => none
  | k + 1, x1, x49, Z0, Z1, Z2, Z3 => if x49 = true then (some 13) else (if Z0 = 5 then (check_wrong.j4 k x1 (decide ((IntKind.u64.wrap (Z3)) ≥ (IntKind.u64.wrap (x1)))) Z0 Z1 Z2 Z3) else (check_wrong.j4 k x1 false Z0 Z1 Z2 Z3))
def check_wrong.j4 : Nat → Int → Bool → Int → Int → Int → Int → Option (Int)
  | 0, _, _, _, _, _, _ => none
  | k + 1, x1, x71, Z0, Z1, Z2, Z3 => if x71 = true then (some 14) else (if Z0 = 5 then (check_wrong.j5 k x1 false Z0 Z1 Z2 Z3) else ((insn_Jumps.f Z0).bind fun t107 => (if t107 = true then (check_wrong.j5 k x1 (decide ((mx (wrap64 (Z1)) (wrap64 (Z2))) ≥ x1)) Z0 Z1 Z2 Z3) else (check_wrong.j5 k x1 false Z0 Z1 Z2 Z3))))
def check_wrong.j5 : Nat → Int → Bool → Int → Int → Int → Int → Option (Int)
  | 0, _, _, _, _, _, _ => none
  | k + 1, x1, x83, Z0, Z1, Z2, Z3 => if x83 = true then (some 14) else (if x1 = 0 then ((insn_Ends.f Z0).bind fun t108 => (if t108 = true then (some 0) else (some 15))) else (some 0))
end
def check_wrong.f (k : Nat) (a0_0 : Int) (a0_1 : Int) (a0_2 : Int) (a0_3 : Int) (a1 : Int) : Option (Int) := (insn_Known.f k a0_0).bind fun t106 => (if t106 = true then (if a0_0 = 32 then (if (Int.tmod a0_3 4) = 0 then (check_wrong.j0 k a1 (decide (a0_3 ≥ 64)) a0_0 a0_1 a0_2 a0_3) else (check_wrong.j0 k a1 true a0_0 a0_1 a0_2 a0_3)) else (check_wrong.j0 k a1 false a0_0 a0_1 a0_2 a0_3)) else (some 11))
set_option maxHeartbeats 8000000 in
set_option maxRecDepth 100000 in
theorem check_wrong.calls (k : Nat) (a0_0 : Int) (a0_1 : Int) (a0_2 : Int) (a0_3 : Int) (a1 : Int) (r : Int) (w : World) (h : check_wrong.f k a0_0 a0_1 a0_2 a0_3 a1 = some r) :
    Calls Try.prog 33 #[.agg #[.int .u16 a0_0, .int .u8 a0_1, .int .u8 a0_2, .int .u32 a0_3], .int .i64 a1] w fun e w' => e = .returned (.int .i64 r) ∧ Below w.heap.size w w' := by
  have hu53 := Try.underlying53
  have HB := Aside0.mk (Below.refl w.heap.size w)
  have H : ((insn_Known.f k a0_0).bind fun t106 => (if t106 = true then (if a0_0 = 32 then (if (Int.tmod a0_3 4) = 0 then (check_wrong.j0 k a1 (decide (a0_3 ≥ 64)) a0_0 a0_1 a0_2 a0_3) else (check_wrong.j0 k a1 true a0_0 a0_1 a0_2 a0_3)) else (check_wrong.j0 k a1 false a0_0 a0_1 a0_2 a0_3)) else (some 11))) = some r := h
  clear h
  replace H := Option.bind_eq_some_iff.mp H
  obtain ⟨t106, A30, H⟩ := H
  replace H : (if t106 = true then (if a0_0 = 32 then (if (Int.tmod a0_3 4) = 0 then (check_wrong.j0 k a1 (decide (a0_3 ≥ 64)) a0_0 a0_1 a0_2 a0_3) else (check_wrong.j0 k a1 true a0_0 a0_1 a0_2 a0_3)) else (check_wrong.j0 k a1 false a0_0 a0_1 a0_2 a0_3)) else (some 11)) = some r := H
  have A3 := Aside0.mk A30
  clear A30
  by_cases c4 : t106 = true
  · subst c4
    have H1 : (if a0_0 = 32 then (if (Int.tmod a0_3 4) = 0 then (check_wrong.j0 k a1 (decide (a0_3 ≥ 64)) a0_0 a0_1 a0_2 a0_3) else (check_wrong.j0 k a1 true a0_0 a0_1 a0_2 a0_3)) else (check_wrong.j0 k a1 false a0_0 a0_1 a0_2 a0_3)) = some r := by rw [if_pos rfl] at H; exact H
    clear H
    have H := H1
    clear H1
    have HC5 := Aside0.mk H
    clear H
    go_enter Try.func33, Try.ntmps33
    go_upto_region 3 with (first | ((with_reducible refine gate_dst (N := 2) rfl ?_); (try (refine gate_guard (by rfl) ?_; dsimp only)); refine box_event ?hg (N := 2) ?hd (cs := #[.int .u16 a0_0, .int .u8 a0_1, .int .u8 a0_2, .int .u32 a0_3]) (t := 53) ?hr ?_; (case hd => rfl); (case hg => rfl); (case hr => first | (go_simp; done) | (go_simp; rfl)); intro gb105 hg w6 hbox hb; have n0_ := Aside0.mk (below_step (by repeat (first | (with_reducible first | exact HB.out | apply below_alloc | apply pw_below_drewN | apply below_drew1) | exact HB.out)) hb); have n1_ := Aside0.mk (hbox); have n2_ := Aside0.mk ((by rw [hg]; exact (below_size (by repeat (first | (with_reducible first | exact HB.out | apply below_alloc | apply pw_below_drewN | apply below_drew1) | exact HB.out))) : w.heap.size ≤ gb105)); have n3_ := Aside0.mk ((by rw [hg]; exact (below_size (by repeat (first | (with_reducible first | exact HB.out | apply below_alloc | apply pw_below_drewN | apply below_drew1) | exact HB.out))) : w.heap.size ≤ gb105)); clear HB; have HB := n0_; have BK105 := n1_; have GW105 := n2_; have GE105 := n3_; clear n0_ n1_ n2_ n3_; clear hb hbox hg; obtain ⟨hcz7_0, hcz7_1, hcz7_2, hcz7_3⟩ := Mine.cells4 BK105.out; have hfz7_0 := blk_frozen BK105.out) | ((with_reducible refine gate_callee (f := 37) rfl ?_); refine goesL_ (some 8) rfl rfl Try.func37 (by kernel_rfl) rfl #[.int .u16 a0_0] rfl (by (try simp only [List.map_toArray, List.map_cons, List.map_nil]); first | done | rfl | (simp only [List.length_drop, List.length_take]; rfl)) ?_; (with_reducible refine (insn_Known.calls k a0_0 true _ A3.out).mono ?_); rintro e w8 ⟨rfl, hb⟩; refine ⟨_, rfl, ?_⟩; have n0_ := Aside0.mk (blk_below (g := gb105) (o := .cells #[.int .u16 a0_0, .int .u8 a0_1, .int .u8 a0_2, .int .u32 a0_3] 53 (0, 0)) (by (with_reducible repeat (first | refine blk_drewN ?_ _ | refine blk_drew ?_ | refine blk_alloc ?_ _)); exact BK105.out) hb); have n1_ := Aside0.mk (below_step (by repeat (first | (with_reducible first | exact HB.out | apply below_alloc | apply pw_below_drewN | apply below_drew1 | refine below_set ?_ GE105.out) | exact HB.out)) hb); clear BK105; clear HB; have BK105 := n0_; have HB := n1_; clear n0_ n1_; (try clear hb); (try clear hb2); (try clear hk); (try clear hi)))
    (try simp only [Act.put, List.setIfInBounds_toArray, List.set_cons_zero, List.set_cons_succ])
    go_cut [10] (fun v10 wc => ∃ (kq : Nat) (x10_4 : Bool), v10 = .bool x10_4 ∧ Aside0 (check_wrong.j0 kq a1 x10_4 a0_0 a0_1 a0_2 a0_3 = some r) ∧ Aside0 (kq ≤ k) ∧ Aside0 (wc.heap[gb105]? = some (.cells #[.int .u16 a0_0, .int .u8 a0_1, .int .u8 a0_2, .int .u32 a0_3] 53 (0, 0))) ∧ Aside0 (Below w.heap.size w wc))
    case first =>
      have H := HC5.out
      clear HC5
      by_cases c9 : a0_0 = 32
      · rw [if_pos c9] at H
        have c9b0 : (a0_0 == 32) = true := beq_iff_eq.mpr c9
        have c9b1 : (a0_0 != 32) = false := bne_eq_false_iff_eq.mpr c9
        clear c9
        (first | rw [c9b0] | (simp only [i64_w, i32_w]; rw [c9b0]) | skip)
        by_cases c10 : (Int.tmod a0_3 4) = 0
        · rw [if_pos c10] at H
          have c10b0 : ((Int.tmod a0_3 4) == 0) = true := beq_iff_eq.mpr c10
          have c10b1 : ((Int.tmod a0_3 4) != 0) = false := bne_eq_false_iff_eq.mpr c10
          clear c10
          have H' := Aside0.mk H
          clear H
          obtain ⟨hcz11_0, hcz11_1, hcz11_2, hcz11_3⟩ := Mine.cells4 BK105.out
          have hfz11_0 := blk_frozen BK105.out
          go_wp2
          go_meet
          case rel => exact ⟨_, (decide (a0_3 ≥ 64)), (by first | rfl | (simp; done) | (simp [*]; done)), H', ⟨by first | omega | exact Nat.le_refl _⟩, ⟨by (with_reducible repeat (first | refine blk_drewN ?_ _ | refine blk_drew ?_ | refine blk_alloc ?_ _)); exact BK105.out⟩, ⟨by repeat (first | (with_reducible first | exact HB.out | apply below_alloc | apply pw_below_drewN | apply below_drew1 | refine below_set ?_ GE105.out) | exact HB.out)⟩⟩
        · rw [if_neg c10] at H
          have c10b0 : ((Int.tmod a0_3 4) == 0) = false := beq_eq_false_iff_ne.mpr c10
          have c10b1 : ((Int.tmod a0_3 4) != 0) = true := bne_iff_ne.mpr c10
          have H' := Aside0.mk H
          clear H
          obtain ⟨hcz12_0, hcz12_1, hcz12_2, hcz12_3⟩ := Mine.cells4 BK105.out
          have hfz12_0 := blk_frozen BK105.out
          go_wp2
          go_meet
          case rel => exact ⟨_, (true), (by first | rfl | (simp; done) | (simp [*]; done)), H', ⟨by first | omega | exact Nat.le_refl _⟩, ⟨by (with_reducible repeat (first | refine blk_drewN ?_ _ | refine blk_drew ?_ | refine blk_alloc ?_ _)); exact BK105.out⟩, ⟨by repeat (first | (with_reducible first | exact HB.out | apply below_alloc | apply pw_below_drewN | apply below_drew1 | refine below_set ?_ GE105.out) | exact HB.out)⟩⟩
      · rw [if_neg c9] at H
        have c9b0 : (a0_0 == 32) = false := beq_eq_false_iff_ne.mpr c9
        have c9b1 : (a0_0 != 32) = true := bne_iff_ne.mpr c9
        (first | rw [c9b0] | (simp only [i64_w, i32_w]; rw [c9b0]) | skip)
        have H' := Aside0.mk H
        clear H
        obtain ⟨hcz13_0, hcz13_1, hcz13_2, hcz13_3⟩ := Mine.cells4 BK105.out
        have hfz13_0 := blk_frozen BK105.out
        go_wp2
        go_meet
        case rel => exact ⟨_, (false), (by first | rfl | (simp; done) | (simp [*]; done)), H', ⟨by first | omega | exact Nat.le_refl _⟩, ⟨by (with_reducible repeat (first | refine blk_drewN ?_ _ | refine blk_drew ?_ | refine blk_alloc ?_ _)); exact BK105.out⟩, ⟨by repeat (first | (with_reducible first | exact HB.out | apply below_alloc | apply pw_below_drewN | apply below_drew1 | refine below_set ?_ GE105.out) | exact HB.out)⟩⟩
    case rest =>
      clear HC5
      try clear c1
      try clear p2
      try clear c3
      try clear c4
      try clear c9
      try clear c9b0
      try clear c9b1
      try clear c10
      try clear c10b0
      try clear c10b1
      try clear hcz11_0 hcz11_1 hcz11_2 hcz11_3
      try clear hcz12_0 hcz12_1 hcz12_2 hcz12_3
      try clear hcz13_0 hcz13_1 hcz13_2 hcz13_3
      try clear hcz7_0 hcz7_1 hcz7_2 hcz7_3
      try clear hfz11_0
      try clear hfz12_0
      try clear hfz13_0
      try clear hfz7_0
      obtain ⟨kq, x10_4, rfl, HA, HJ4, BK105, HB⟩ := hcut
      cases kq with
      | zero => exact absurd HA.out (by simp [check_wrong.j0])
      | succ kj4 =>
        have H := HA.out
        clear HA
        simp only [check_wrong.j0] at H
        by_cases c14 : x10_4 = true
        · subst c14
          have H1 : (some 12) = some r := by rw [if_pos rfl] at H; exact H
          clear H
          have H := H1
          clear H1
          obtain rfl := Option.some.inj H
          go_wp2
          go_ret
          exact ⟨by first | rfl | (simp [errW_none, errW_some] <;> rfl) | (simp [*, errW_none, errW_some] <;> rfl), by repeat (first | (with_reducible first | exact HB.out | apply below_alloc | apply pw_below_drewN | apply below_drew1 | refine below_set ?_ GE105.out) | exact HB.out)⟩
        · replace c14 := Bool.eq_false_iff.mpr c14
          subst c14
          have H1 : (if a0_0 = 96 then (check_wrong.j1 kj4 a1 (decide (a0_3 ≥ 16)) a0_0 a0_1 a0_2 a0_3) else (if a0_0 = 97 then (check_wrong.j1 kj4 a1 (decide (a0_3 ≥ 16)) a0_0 a0_1 a0_2 a0_3) else (if a0_0 = 2 then (check_wrong.j1 kj4 a1 (decide (a0_3 ≥ 16)) a0_0 a0_1 a0_2 a0_3) else (if a0_0 = 3 then (check_wrong.j1 kj4 a1 (decide (a0_3 ≥ 16)) a0_0 a0_1 a0_2 a0_3) else (check_wrong.j1 kj4 a1 false a0_0 a0_1 a0_2 a0_3))))) = some r := by rw [if_neg (show ¬ (false = true) by decide)] at H; exact H
          clear H
          have H := H1
          clear H1
          have HC15 := Aside0.mk H
          clear H
          go_upto_region 5 with (fail)
          go_cut [25] (fun v25 wc => ∃ (kq : Nat) (x25_14 : Bool), v25 = .bool x25_14 ∧ Aside0 (check_wrong.j1 kq a1 x25_14 a0_0 a0_1 a0_2 a0_3 = some r) ∧ Aside0 (kq ≤ kj4) ∧ Aside0 (wc.heap[gb105]? = some (.cells #[.int .u16 a0_0, .int .u8 a0_1, .int .u8 a0_2, .int .u32 a0_3] 53 (0, 0))) ∧ Aside0 (Below w.heap.size w wc))
          case first =>
            have H := HC15.out
            clear HC15
            by_cases c16 : a0_0 = 96
            · rw [if_pos c16] at H
              have c16b0 : (a0_0 == 96) = true := beq_iff_eq.mpr c16
              have c16b1 : (a0_0 != 96) = false := bne_eq_false_iff_eq.mpr c16
              clear c16
              (first | rw [c16b0] | (simp only [i64_w, i32_w]; rw [c16b0]) | skip)
              have H' := Aside0.mk H
              clear H
              obtain ⟨hcz17_0, hcz17_1, hcz17_2, hcz17_3⟩ := Mine.cells4 BK105.out
              have hfz17_0 := blk_frozen BK105.out
              go_wp2
              go_meet
              case rel => exact ⟨_, (decide (a0_3 ≥ 16)), (by first | rfl | (simp; done) | (simp [*]; done)), H', ⟨by have := HJ4.out; first | omega | exact Nat.le_refl _⟩, ⟨by (with_reducible repeat (first | refine blk_drewN ?_ _ | refine blk_drew ?_ | refine blk_alloc ?_ _)); exact BK105.out⟩, ⟨by repeat (first | (with_reducible first | exact HB.out | apply below_alloc | apply pw_below_drewN | apply below_drew1 | refine below_set ?_ GE105.out) | exact HB.out)⟩⟩
            · rw [if_neg c16] at H
              have c16b0 : (a0_0 == 96) = false := beq_eq_false_iff_ne.mpr c16
              have c16b1 : (a0_0 != 96) = true := bne_iff_ne.mpr c16
              (first | rw [c16b0] | (simp only [i64_w, i32_w]; rw [c16b0]) | skip)
              by_cases c18 : a0_0 = 97
              · rw [if_pos c18] at H
                have c18b0 : (a0_0 == 97) = true := beq_iff_eq.mpr c18
                have c18b1 : (a0_0 != 97) = false := bne_eq_false_iff_eq.mpr c18
                clear c18
                have H' := Aside0.mk H
                clear H
                obtain ⟨hcz19_0, hcz19_1, hcz19_2, hcz19_3⟩ := Mine.cells4 BK105.out
                have hfz19_0 := blk_frozen BK105.out
                go_wp2
                go_meet
                case rel => exact ⟨_, (decide (a0_3 ≥ 16)), (by first | rfl | (simp; done) | (simp [*]; done)), H', ⟨by have := HJ4.out; first | omega | exact Nat.le_refl _⟩, ⟨by (with_reducible repeat (first | refine blk_drewN ?_ _ | refine blk_drew ?_ | refine blk_alloc ?_ _)); exact BK105.out⟩, ⟨by repeat (first | (with_reducible first | exact HB.out | apply below_alloc | apply pw_below_drewN | apply below_drew1 | refine below_set ?_ GE105.out) | exact HB.out)⟩⟩
              · rw [if_neg c18] at H
                have c18b0 : (a0_0 == 97) = false := beq_eq_false_iff_ne.mpr c18
                have c18b1 : (a0_0 != 97) = true := bne_iff_ne.mpr c18
                by_cases c20 : a0_0 = 2
                · rw [if_pos c20] at H
                  have c20b0 : (a0_0 == 2) = true := beq_iff_eq.mpr c20
                  have c20b1 : (a0_0 != 2) = false := bne_eq_false_iff_eq.mpr c20
                  clear c20
                  have H' := Aside0.mk H
                  clear H
                  obtain ⟨hcz21_0, hcz21_1, hcz21_2, hcz21_3⟩ := Mine.cells4 BK105.out
                  have hfz21_0 := blk_frozen BK105.out
                  go_wp2
                  go_meet
                  case rel => exact ⟨_, (decide (a0_3 ≥ 16)), (by first | rfl | (simp; done) | (simp [*]; done)), H', ⟨by have := HJ4.out; first | omega | exact Nat.le_refl _⟩, ⟨by (with_reducible repeat (first | refine blk_drewN ?_ _ | refine blk_drew ?_ | refine blk_alloc ?_ _)); exact BK105.out⟩, ⟨by repeat (first | (with_reducible first | exact HB.out | apply below_alloc | apply pw_below_drewN | apply below_drew1 | refine below_set ?_ GE105.out) | exact HB.out)⟩⟩
                · rw [if_neg c20] at H
                  have c20b0 : (a0_0 == 2) = false := beq_eq_false_iff_ne.mpr c20
                  have c20b1 : (a0_0 != 2) = true := bne_iff_ne.mpr c20
                  by_cases c22 : a0_0 = 3
                  · rw [if_pos c22] at H
                    have c22b0 : (a0_0 == 3) = true := beq_iff_eq.mpr c22
                    have c22b1 : (a0_0 != 3) = false := bne_eq_false_iff_eq.mpr c22
                    clear c22
                    have H' := Aside0.mk H
                    clear H
                    obtain ⟨hcz23_0, hcz23_1, hcz23_2, hcz23_3⟩ := Mine.cells4 BK105.out
                    have hfz23_0 := blk_frozen BK105.out
                    go_wp2
                    go_meet
                    case rel => exact ⟨_, (decide (a0_3 ≥ 16)), (by first | rfl | (simp; done) | (simp [*]; done)), H', ⟨by have := HJ4.out; first | omega | exact Nat.le_refl _⟩, ⟨by (with_reducible repeat (first | refine blk_drewN ?_ _ | refine blk_drew ?_ | refine blk_alloc ?_ _)); exact BK105.out⟩, ⟨by repeat (first | (with_reducible first | exact HB.out | apply below_alloc | apply pw_below_drewN | apply below_drew1 | refine below_set ?_ GE105.out) | exact HB.out)⟩⟩
                  · rw [if_neg c22] at H
                    have c22b0 : (a0_0 == 3) = false := beq_eq_false_iff_ne.mpr c22
                    have c22b1 : (a0_0 != 3) = true := bne_iff_ne.mpr c22
                    have H' := Aside0.mk H
                    clear H
                    obtain ⟨hcz24_0, hcz24_1, hcz24_2, hcz24_3⟩ := Mine.cells4 BK105.out
                    have hfz24_0 := blk_frozen BK105.out
                    go_wp2
                    go_meet
                    case rel => exact ⟨_, (false), (by first | rfl | (simp; done) | (simp [*]; done)), H', ⟨by have := HJ4.out; first | omega | exact Nat.le_refl _⟩, ⟨by (with_reducible repeat (first | refine blk_drewN ?_ _ | refine blk_drew ?_ | refine blk_alloc ?_ _)); exact BK105.out⟩, ⟨by repeat (first | (with_reducible first | exact HB.out | apply below_alloc | apply pw_below_drewN | apply below_drew1 | refine below_set ?_ GE105.out) | exact HB.out)⟩⟩
          case rest =>
            clear HC15
            try clear c1
            try clear c2
            try clear p2
            try clear c3
            try clear c4
            try clear c9
            try clear c9b0
            try clear c9b1
            try clear c10
            try clear c10b0
            try clear c10b1
            try clear c14
            try clear c16
            try clear c16b0
            try clear c16b1
            try clear c18
            try clear c18b0
            try clear c18b1
            try clear c20
            try clear c20b0
            try clear c20b1
            try clear c22
            try clear c22b0
            try clear c22b1
            try clear hcz11_0 hcz11_1 hcz11_2 hcz11_3
            try clear hcz12_0 hcz12_1 hcz12_2 hcz12_3
            try clear hcz13_0 hcz13_1 hcz13_2 hcz13_3
            try clear hcz17_0 hcz17_1 hcz17_2 hcz17_3
            try clear hcz19_0 hcz19_1 hcz19_2 hcz19_3
            try clear hcz21_0 hcz21_1 hcz21_2 hcz21_3
            try clear hcz23_0 hcz23_1 hcz23_2 hcz23_3
            try clear hcz24_0 hcz24_1 hcz24_2 hcz24_3
            try clear hcz7_0 hcz7_1 hcz7_2 hcz7_3
            try clear hfz11_0
            try clear hfz12_0
            try clear hfz13_0
            try clear hfz17_0
            try clear hfz19_0
            try clear hfz21_0
            try clear hfz23_0
            try clear hfz24_0
            try clear hfz7_0
            try clear p2
            obtain ⟨kq, x25_14, rfl, HA, HJ14, BK105, HB⟩ := hcut
            cases kq with
            | zero => exact absurd HA.out (by simp [check_wrong.j1])
            | succ kj14 =>
              have H := HA.out
              clear HA
              simp only [check_wrong.j1] at H
              by_cases c25 : x25_14 = true
              · subst c25
                have H1 : (some 12) = some r := by rw [if_pos rfl] at H; exact H
                clear H
                have H := H1
                clear H1
                obtain rfl := Option.some.inj H
                go_wp2
                go_ret
                exact ⟨by first | rfl | (simp [errW_none, errW_some] <;> rfl) | (simp [*, errW_none, errW_some] <;> rfl), by repeat (first | (with_reducible first | exact HB.out | apply below_alloc | apply pw_below_drewN | apply below_drew1 | refine below_set ?_ GE105.out) | exact HB.out)⟩
              · replace c25 := Bool.eq_false_iff.mpr c25
                subst c25
                have H1 : (if a0_0 = 52 then (check_wrong.j2 kj14 a1 (a0_3 == 0) a0_0 a0_1 a0_2 a0_3) else (check_wrong.j2 kj14 a1 false a0_0 a0_1 a0_2 a0_3)) = some r := by rw [if_neg (show ¬ (false = true) by decide)] at H; exact H
                clear H
                have H := H1
                clear H1
                have HC26 := Aside0.mk H
                clear H
                go_upto_region 7 with (fail)
                go_cut [49] (fun v49 wc => ∃ (kq : Nat) (x49_25 : Bool), v49 = .bool x49_25 ∧ Aside0 (check_wrong.j2 kq a1 x49_25 a0_0 a0_1 a0_2 a0_3 = some r) ∧ Aside0 (kq ≤ kj14) ∧ Aside0 (wc.heap[gb105]? = some (.cells #[.int .u16 a0_0, .int .u8 a0_1, .int .u8 a0_2, .int .u32 a0_3] 53 (0, 0))) ∧ Aside0 (Below w.heap.size w wc))
                case first =>
                  have H := HC26.out
                  clear HC26
                  by_cases c27 : a0_0 = 52
                  · rw [if_pos c27] at H
                    have c27b0 : (a0_0 == 52) = true := beq_iff_eq.mpr c27
                    have c27b1 : (a0_0 != 52) = false := bne_eq_false_iff_eq.mpr c27
                    clear c27
                    (first | rw [c27b0] | (simp only [i64_w, i32_w]; rw [c27b0]) | skip)
                    have H' := Aside0.mk H
                    clear H
                    obtain ⟨hcz28_0, hcz28_1, hcz28_2, hcz28_3⟩ := Mine.cells4 BK105.out
                    have hfz28_0 := blk_frozen BK105.out
                    go_wp2
                    go_meet
                    case rel => exact ⟨_, ((a0_3 == 0)), (by first | rfl | (simp; done) | (simp [*]; done)), H', ⟨by have := HJ4.out; have := HJ14.out; first | omega | exact Nat.le_refl _⟩, ⟨by (with_reducible repeat (first | refine blk_drewN ?_ _ | refine blk_drew ?_ | refine blk_alloc ?_ _)); exact BK105.out⟩, ⟨by repeat (first | (with_reducible first | exact HB.out | apply below_alloc | apply pw_below_drewN | apply below_drew1 | refine below_set ?_ GE105.out) | exact HB.out)⟩⟩
                  · rw [if_neg c27] at H
                    have c27b0 : (a0_0 == 52) = false := beq_eq_false_iff_ne.mpr c27
                    have c27b1 : (a0_0 != 52) = true := bne_iff_ne.mpr c27
                    (first | rw [c27b0] | (simp only [i64_w, i32_w]; rw [c27b0]) | skip)
                    have H' := Aside0.mk H
                    clear H
                    obtain ⟨hcz29_0, hcz29_1, hcz29_2, hcz29_3⟩ := Mine.cells4 BK105.out
                    have hfz29_0 := blk_frozen BK105.out
                    go_wp2
                    go_meet
                    case rel => exact ⟨_, (false), (by first | rfl | (simp; done) | (simp [*]; done)), H', ⟨by have := HJ4.out; have := HJ14.out; first | omega | exact Nat.le_refl _⟩, ⟨by (with_reducible repeat (first | refine blk_drewN ?_ _ | refine blk_drew ?_ | refine blk_alloc ?_ _)); exact BK105.out⟩, ⟨by repeat (first | (with_reducible first | exact HB.out | apply below_alloc | apply pw_below_drewN | apply below_drew1 | refine below_set ?_ GE105.out) | exact HB.out)⟩⟩
                case rest =>
                  clear HC26
                  try clear c1
                  try clear c2
                  try clear p2
                  try clear c3
                  try clear c4
                  try clear c9
                  try clear c9b0
                  try clear c9b1
                  try clear c10
                  try clear c10b0
                  try clear c10b1
                  try clear c14
                  try clear c16
                  try clear c16b0
                  try clear c16b1
                  try clear c18
                  try clear c18b0
                  try clear c18b1
                  try clear c20
                  try clear c20b0
                  try clear c20b1
                  try clear c22
                  try clear c22b0
                  try clear c22b1
                  try clear c25
                  try clear c27
                  try clear c27b0
                  try clear c27b1
                  try clear hcz11_0 hcz11_1 hcz11_2 hcz11_3
                  try clear hcz12_0 hcz12_1 hcz12_2 hcz12_3
                  try clear hcz13_0 hcz13_1 hcz13_2 hcz13_3
                  try clear hcz17_0 hcz17_1 hcz17_2 hcz17_3
                  try clear hcz19_0 hcz19_1 hcz19_2 hcz19_3
                  try clear hcz21_0 hcz21_1 hcz21_2 hcz21_3
                  try clear hcz23_0 hcz23_1 hcz23_2 hcz23_3
                  try clear hcz24_0 hcz24_1 hcz24_2 hcz24_3
                  try clear hcz28_0 hcz28_1 hcz28_2 hcz28_3
                  try clear hcz29_0 hcz29_1 hcz29_2 hcz29_3
                  try clear hcz7_0 hcz7_1 hcz7_2 hcz7_3
                  try clear hfz11_0
                  try clear hfz12_0
                  try clear hfz13_0
                  try clear hfz17_0
                  try clear hfz19_0
                  try clear hfz21_0
                  try clear hfz23_0
                  try clear hfz24_0
                  try clear hfz28_0
                  try clear hfz29_0
                  try clear hfz7_0
                  try clear p2
                  obtain ⟨kq, x49_25, rfl, HA, HJ25, BK105, HB⟩ := hcut
                  cases kq with
                  | zero => exact absurd HA.out (by simp [check_wrong.j2])
                  | succ kj25 =>
                    have H := HA.out
                    clear HA
                    simp only [check_wrong.j2] at H
                    have HC30 := Aside0.mk H
                    clear H
                    go_upto_if 49 with (fail)
                    go_cut [49] (fun v49 wc => ∃ (kq : Nat) (x49_29 : Bool), v49 = .bool x49_29 ∧ Aside0 (check_wrong.j3 kq a1 x49_29 a0_0 a0_1 a0_2 a0_3 = some r) ∧ Aside0 (kq ≤ kj25) ∧ Aside0 (wc.heap[gb105]? = some (.cells #[.int .u16 a0_0, .int .u8 a0_1, .int .u8 a0_2, .int .u32 a0_3] 53 (0, 0))) ∧ Aside0 (Below w.heap.size w wc))
                    case first =>
                      have H := HC30.out
                      clear HC30
                      by_cases c31 : x49_25 = true
                      · subst c31
                        have H1 : (check_wrong.j3 kj25 a1 true a0_0 a0_1 a0_2 a0_3) = some r := by rw [if_pos rfl] at H; exact H
                        clear H
                        have H := H1
                        clear H1
                        have H' := Aside0.mk H
                        clear H
                        go_wp2
                        go_meet
                        case rel => exact ⟨_, (true), (by first | rfl | (simp; done) | (simp [*]; done)), H', ⟨by have := HJ4.out; have := HJ14.out; have := HJ25.out; first | omega | exact Nat.le_refl _⟩, ⟨by (with_reducible repeat (first | refine blk_drewN ?_ _ | refine blk_drew ?_ | refine blk_alloc ?_ _)); exact BK105.out⟩, ⟨by repeat (first | (with_reducible first | exact HB.out | apply below_alloc | apply pw_below_drewN | apply below_drew1 | refine below_set ?_ GE105.out) | exact HB.out)⟩⟩
                      · replace c31 := Bool.eq_false_iff.mpr c31
                        subst c31
                        have H1 : (if a0_0 = 100 then (check_wrong.j3 kj25 a1 (decide (a0_3 > 31)) a0_0 a0_1 a0_2 a0_3) else (if a0_0 = 116 then (check_wrong.j3 kj25 a1 (decide (a0_3 > 31)) a0_0 a0_1 a0_2 a0_3) else (check_wrong.j3 kj25 a1 false a0_0 a0_1 a0_2 a0_3))) = some r := by rw [if_neg (show ¬ (false = true) by decide)] at H; exact H
                        clear H
                        have H := H1
                        clear H1
                        by_cases c32 : a0_0 = 100
                        · rw [if_pos c32] at H
                          have c32b0 : (a0_0 == 100) = true := beq_iff_eq.mpr c32
                          have c32b1 : (a0_0 != 100) = false := bne_eq_false_iff_eq.mpr c32
                          clear c32
                          (first | rw [c32b0] | (simp only [i64_w, i32_w]; rw [c32b0]) | skip)
                          have H' := Aside0.mk H
                          clear H
                          obtain ⟨hcz33_0, hcz33_1, hcz33_2, hcz33_3⟩ := Mine.cells4 BK105.out
                          have hfz33_0 := blk_frozen BK105.out
                          go_wp2
                          go_meet
                          case rel => exact ⟨_, (decide (a0_3 > 31)), (by first | rfl | (simp; done) | (simp [*]; done)), H', ⟨by have := HJ4.out; have := HJ14.out; have := HJ25.out; first | omega | exact Nat.le_refl _⟩, ⟨by (with_reducible repeat (first | refine blk_drewN ?_ _ | refine blk_drew ?_ | refine blk_alloc ?_ _)); exact BK105.out⟩, ⟨by repeat (first | (with_reducible first | exact HB.out | apply below_alloc | apply pw_below_drewN | apply below_drew1 | refine below_set ?_ GE105.out) | exact HB.out)⟩⟩
                        · rw [if_neg c32] at H
                          have c32b0 : (a0_0 == 100) = false := beq_eq_false_iff_ne.mpr c32
                          have c32b1 : (a0_0 != 100) = true := bne_iff_ne.mpr c32
                          (first | rw [c32b0] | (simp only [i64_w, i32_w]; rw [c32b0]) | skip)
                          by_cases c34 : a0_0 = 116
                          · rw [if_pos c34] at H
                            have c34b0 : (a0_0 == 116) = true := beq_iff_eq.mpr c34
                            have c34b1 : (a0_0 != 116) = false := bne_eq_false_iff_eq.mpr c34
                            clear c34
                            have H' := Aside0.mk H
                            clear H
                            obtain ⟨hcz35_0, hcz35_1, hcz35_2, hcz35_3⟩ := Mine.cells4 BK105.out
                            have hfz35_0 := blk_frozen BK105.out
                            go_wp2
                            go_meet
                            case rel => exact ⟨_, (decide (a0_3 > 31)), (by first | rfl | (simp; done) | (simp [*]; done)), H', ⟨by have := HJ4.out; have := HJ14.out; have := HJ25.out; first | omega | exact Nat.le_refl _⟩, ⟨by (with_reducible repeat (first | refine blk_drewN ?_ _ | refine blk_drew ?_ | refine blk_alloc ?_ _)); exact BK105.out⟩, ⟨by repeat (first | (with_reducible first | exact HB.out | apply below_alloc | apply pw_below_drewN | apply below_drew1 | refine below_set ?_ GE105.out) | exact HB.out)⟩⟩
                          · rw [if_neg c34] at H
                            have c34b0 : (a0_0 == 116) = false := beq_eq_false_iff_ne.mpr c34
                            have c34b1 : (a0_0 != 116) = true := bne_iff_ne.mpr c34
                            have H' := Aside0.mk H
                            clear H
                            obtain ⟨hcz36_0, hcz36_1, hcz36_2, hcz36_3⟩ := Mine.cells4 BK105.out
                            have hfz36_0 := blk_frozen BK105.out
                            go_wp2
                            go_meet
                            case rel => exact ⟨_, (false), (by first | rfl | (simp; done) | (simp [*]; done)), H', ⟨by have := HJ4.out; have := HJ14.out; have := HJ25.out; first | omega | exact Nat.le_refl _⟩, ⟨by (with_reducible repeat (first | refine blk_drewN ?_ _ | refine blk_drew ?_ | refine blk_alloc ?_ _)); exact BK105.out⟩, ⟨by repeat (first | (with_reducible first | exact HB.out | apply below_alloc | apply pw_below_drewN | apply below_drew1 | refine below_set ?_ GE105.out) | exact HB.out)⟩⟩
                    case rest =>
                      clear HC30
                      try clear c1
                      try clear c2
                      try clear p2
                      try clear c3
                      try clear c4
                      try clear c9
                      try clear c9b0
                      try clear c9b1
                      try clear c10
                      try clear c10b0
                      try clear c10b1
                      try clear c14
                      try clear c16
                      try clear c16b0
                      try clear c16b1
                      try clear c18
                      try clear c18b0
                      try clear c18b1
                      try clear c20
                      try clear c20b0
                      try clear c20b1
                      try clear c22
                      try clear c22b0
                      try clear c22b1
                      try clear c25
                      try clear c27
                      try clear c27b0
                      try clear c27b1
                      try clear c31
                      try clear c32
                      try clear c32b0
                      try clear c32b1
                      try clear c34
                      try clear c34b0
                      try clear c34b1
                      try clear hcz11_0 hcz11_1 hcz11_2 hcz11_3
                      try clear hcz12_0 hcz12_1 hcz12_2 hcz12_3
                      try clear hcz13_0 hcz13_1 hcz13_2 hcz13_3
                      try clear hcz17_0 hcz17_1 hcz17_2 hcz17_3
                      try clear hcz19_0 hcz19_1 hcz19_2 hcz19_3
                      try clear hcz21_0 hcz21_1 hcz21_2 hcz21_3
                      try clear hcz23_0 hcz23_1 hcz23_2 hcz23_3
                      try clear hcz24_0 hcz24_1 hcz24_2 hcz24_3
                      try clear hcz28_0 hcz28_1 hcz28_2 hcz28_3
                      try clear hcz29_0 hcz29_1 hcz29_2 hcz29_3
                      try clear hcz33_0 hcz33_1 hcz33_2 hcz33_3
                      try clear hcz35_0 hcz35_1 hcz35_2 hcz35_3
                      try clear hcz36_0 hcz36_1 hcz36_2 hcz36_3
                      try clear hcz7_0 hcz7_1 hcz7_2 hcz7_3
                      try clear hfz11_0
                      try clear hfz12_0
                      try clear hfz13_0
                      try clear hfz17_0
                      try clear hfz19_0
                      try clear hfz21_0
                      try clear hfz23_0
                      try clear hfz24_0
                      try clear hfz28_0
                      try clear hfz29_0
                      try clear hfz33_0
                      try clear hfz35_0
                      try clear hfz36_0
                      try clear hfz7_0
                      try clear p2
                      obtain ⟨kq, x49_29, rfl, HA, HJ29, BK105, HB⟩ := hcut
                      cases kq with
                      | zero => exact absurd HA.out (by simp [check_wrong.j3])
                      | succ kj29 =>
                        have H := HA.out
                        clear HA
                        simp only [check_wrong.j3] at H
                        by_cases c37 : x49_29 = true
                        · subst c37
                          have H1 : (some 13) = some r := by rw [if_pos rfl] at H; exact H
                          clear H
                          have H := H1
                          clear H1
                          obtain rfl := Option.some.inj H
                          go_wp2
                          go_ret
                          exact ⟨by first | rfl | (simp [errW_none, errW_some] <;> rfl) | (simp [*, errW_none, errW_some] <;> rfl), by repeat (first | (with_reducible first | exact HB.out | apply below_alloc | apply pw_below_drewN | apply below_drew1 | refine below_set ?_ GE105.out) | exact HB.out)⟩
                        · replace c37 := Bool.eq_false_iff.mpr c37
                          subst c37
                          have H1 : (if a0_0 = 5 then (check_wrong.j4 kj29 a1 (decide ((IntKind.u64.wrap (a0_3)) ≥ (IntKind.u64.wrap (a1)))) a0_0 a0_1 a0_2 a0_3) else (check_wrong.j4 kj29 a1 false a0_0 a0_1 a0_2 a0_3)) = some r := by rw [if_neg (show ¬ (false = true) by decide)] at H; exact H
                          clear H
                          have H := H1
                          clear H1
                          have HC38 := Aside0.mk H
                          clear H
                          go_upto_region 10 with (fail)
                          go_cut [71] (fun v71 wc => ∃ (kq : Nat) (x71_37 : Bool), v71 = .bool x71_37 ∧ Aside0 (check_wrong.j4 kq a1 x71_37 a0_0 a0_1 a0_2 a0_3 = some r) ∧ Aside0 (kq ≤ kj29) ∧ Aside0 (wc.heap[gb105]? = some (.cells #[.int .u16 a0_0, .int .u8 a0_1, .int .u8 a0_2, .int .u32 a0_3] 53 (0, 0))) ∧ Aside0 (Below w.heap.size w wc))
                          case first =>
                            have H := HC38.out
                            clear HC38
                            by_cases c39 : a0_0 = 5
                            · rw [if_pos c39] at H
                              have c39b0 : (a0_0 == 5) = true := beq_iff_eq.mpr c39
                              have c39b1 : (a0_0 != 5) = false := bne_eq_false_iff_eq.mpr c39
                              clear c39
                              (first | rw [c39b0] | (simp only [i64_w, i32_w]; rw [c39b0]) | skip)
                              have H' := Aside0.mk H
                              clear H
                              obtain ⟨hcz40_0, hcz40_1, hcz40_2, hcz40_3⟩ := Mine.cells4 BK105.out
                              have hfz40_0 := blk_frozen BK105.out
                              go_wp2
                              go_meet
                              case rel => exact ⟨_, (decide ((IntKind.u64.wrap (a0_3)) ≥ (IntKind.u64.wrap (a1)))), (by first | rfl | (simp; done) | (simp [*]; done)), H', ⟨by have := HJ4.out; have := HJ14.out; have := HJ25.out; have := HJ29.out; first | omega | exact Nat.le_refl _⟩, ⟨by (with_reducible repeat (first | refine blk_drewN ?_ _ | refine blk_drew ?_ | refine blk_alloc ?_ _)); exact BK105.out⟩, ⟨by repeat (first | (with_reducible first | exact HB.out | apply below_alloc | apply pw_below_drewN | apply below_drew1 | refine below_set ?_ GE105.out) | exact HB.out)⟩⟩
                            · rw [if_neg c39] at H
                              have c39b0 : (a0_0 == 5) = false := beq_eq_false_iff_ne.mpr c39
                              have c39b1 : (a0_0 != 5) = true := bne_iff_ne.mpr c39
                              (first | rw [c39b0] | (simp only [i64_w, i32_w]; rw [c39b0]) | skip)
                              have H' := Aside0.mk H
                              clear H
                              obtain ⟨hcz41_0, hcz41_1, hcz41_2, hcz41_3⟩ := Mine.cells4 BK105.out
                              have hfz41_0 := blk_frozen BK105.out
                              go_wp2
                              go_meet
                              case rel => exact ⟨_, (false), (by first | rfl | (simp; done) | (simp [*]; done)), H', ⟨by have := HJ4.out; have := HJ14.out; have := HJ25.out; have := HJ29.out; first | omega | exact Nat.le_refl _⟩, ⟨by (with_reducible repeat (first | refine blk_drewN ?_ _ | refine blk_drew ?_ | refine blk_alloc ?_ _)); exact BK105.out⟩, ⟨by repeat (first | (with_reducible first | exact HB.out | apply below_alloc | apply pw_below_drewN | apply below_drew1 | refine below_set ?_ GE105.out) | exact HB.out)⟩⟩
                          case rest =>
                            clear HC38
                            try clear c1
                            try clear c2
                            try clear p2
                            try clear c3
                            try clear c4
                            try clear c9
                            try clear c9b0
                            try clear c9b1
                            try clear c10
                            try clear c10b0
                            try clear c10b1
                            try clear c14
                            try clear c16
                            try clear c16b0
                            try clear c16b1
                            try clear c18
                            try clear c18b0
                            try clear c18b1
                            try clear c20
                            try clear c20b0
                            try clear c20b1
                            try clear c22
                            try clear c22b0
                            try clear c22b1
                            try clear c25
                            try clear c27
                            try clear c27b0
                            try clear c27b1
                            try clear c31
                            try clear c32
                            try clear c32b0
                            try clear c32b1
                            try clear c34
                            try clear c34b0
                            try clear c34b1
                            try clear c37
                            try clear c39
                            try clear c39b0
                            try clear c39b1
                            try clear hcz11_0 hcz11_1 hcz11_2 hcz11_3
                            try clear hcz12_0 hcz12_1 hcz12_2 hcz12_3
                            try clear hcz13_0 hcz13_1 hcz13_2 hcz13_3
                            try clear hcz17_0 hcz17_1 hcz17_2 hcz17_3
                            try clear hcz19_0 hcz19_1 hcz19_2 hcz19_3
                            try clear hcz21_0 hcz21_1 hcz21_2 hcz21_3
                            try clear hcz23_0 hcz23_1 hcz23_2 hcz23_3
                            try clear hcz24_0 hcz24_1 hcz24_2 hcz24_3
                            try clear hcz28_0 hcz28_1 hcz28_2 hcz28_3
                            try clear hcz29_0 hcz29_1 hcz29_2 hcz29_3
                            try clear hcz33_0 hcz33_1 hcz33_2 hcz33_3
                            try clear hcz35_0 hcz35_1 hcz35_2 hcz35_3
                            try clear hcz36_0 hcz36_1 hcz36_2 hcz36_3
                            try clear hcz40_0 hcz40_1 hcz40_2 hcz40_3
                            try clear hcz41_0 hcz41_1 hcz41_2 hcz41_3
                            try clear hcz7_0 hcz7_1 hcz7_2 hcz7_3
                            try clear hfz11_0
                            try clear hfz12_0
                            try clear hfz13_0
                            try clear hfz17_0
                            try clear hfz19_0
                            try clear hfz21_0
                            try clear hfz23_0
                            try clear hfz24_0
                            try clear hfz28_0
                            try clear hfz29_0
                            try clear hfz33_0
                            try clear hfz35_0
                            try clear hfz36_0
                            try clear hfz40_0
                            try clear hfz41_0
                            try clear hfz7_0
                            try clear p2
                            obtain ⟨kq, x71_37, rfl, HA, HJ37, BK105, HB⟩ := hcut
                            cases kq with
                            | zero => exact absurd HA.out (by simp [check_wrong.j4])
                            | succ kj37 =>
                              have H := HA.out
                              clear HA
                              simp only [check_wrong.j4] at H
                              by_cases c42 : x71_37 = true
                              · subst c42
                                have H1 : (some 14) = some r := by rw [if_pos rfl] at H; exact H
                                clear H
                                have H := H1
                                clear H1
                                obtain rfl := Option.some.inj H
                                go_wp2
                                go_ret
                                exact ⟨by first | rfl | (simp [errW_none, errW_some] <;> rfl) | (simp [*, errW_none, errW_some] <;> rfl), by repeat (first | (with_reducible first | exact HB.out | apply below_alloc | apply pw_below_drewN | apply below_drew1 | refine below_set ?_ GE105.out) | exact HB.out)⟩
                              · replace c42 := Bool.eq_false_iff.mpr c42
                                subst c42
                                have H1 : (if a0_0 = 5 then (check_wrong.j5 kj37 a1 false a0_0 a0_1 a0_2 a0_3) else ((insn_Jumps.f a0_0).bind fun t107 => (if t107 = true then (check_wrong.j5 kj37 a1 (decide ((mx (wrap64 (a0_1)) (wrap64 (a0_2))) ≥ a1)) a0_0 a0_1 a0_2 a0_3) else (check_wrong.j5 kj37 a1 false a0_0 a0_1 a0_2 a0_3)))) = some r := by rw [if_neg (show ¬ (false = true) by decide)] at H; exact H
                                clear H
                                have H := H1
                                clear H1
                                have HC43 := Aside0.mk H
                                clear H
                                go_upto_region 12 with (fail)
                                go_cut [83] (fun v83 wc => ∃ (kq : Nat) (x83_42 : Bool), v83 = .bool x83_42 ∧ Aside0 (check_wrong.j5 kq a1 x83_42 a0_0 a0_1 a0_2 a0_3 = some r) ∧ Aside0 (kq ≤ kj37) ∧ Aside0 (wc.heap[gb105]? = some (.cells #[.int .u16 a0_0, .int .u8 a0_1, .int .u8 a0_2, .int .u32 a0_3] 53 (0, 0))) ∧ Aside0 (Below w.heap.size w wc))
                                case first =>
                                  have H := HC43.out
                                  clear HC43
                                  by_cases c44 : a0_0 = 5
                                  · rw [if_pos c44] at H
                                    have c44b0 : (a0_0 == 5) = true := beq_iff_eq.mpr c44
                                    have c44b1 : (a0_0 != 5) = false := bne_eq_false_iff_eq.mpr c44
                                    clear c44
                                    (first | rw [c44b0] | (simp only [i64_w, i32_w]; rw [c44b0]) | skip)
                                    have H' := Aside0.mk H
                                    clear H
                                    obtain ⟨hcz45_0, hcz45_1, hcz45_2, hcz45_3⟩ := Mine.cells4 BK105.out
                                    have hfz45_0 := blk_frozen BK105.out
                                    go_wp2
                                    go_meet
                                    case rel => exact ⟨_, (false), (by first | rfl | (simp; done) | (simp [*]; done)), H', ⟨by have := HJ4.out; have := HJ14.out; have := HJ25.out; have := HJ29.out; have := HJ37.out; first | omega | exact Nat.le_refl _⟩, ⟨by (with_reducible repeat (first | refine blk_drewN ?_ _ | refine blk_drew ?_ | refine blk_alloc ?_ _)); exact BK105.out⟩, ⟨by repeat (first | (with_reducible first | exact HB.out | apply below_alloc | apply pw_below_drewN | apply below_drew1 | refine below_set ?_ GE105.out) | exact HB.out)⟩⟩
                                  · rw [if_neg c44] at H
                                    have c44b0 : (a0_0 == 5) = false := beq_eq_false_iff_ne.mpr c44
                                    have c44b1 : (a0_0 != 5) = true := bne_iff_ne.mpr c44
                                    (first | rw [c44b0] | (simp only [i64_w, i32_w]; rw [c44b0]) | skip)
                                    replace H := Option.bind_eq_some_iff.mp H
                                    obtain ⟨t107, A460, H⟩ := H
                                    replace H : (if t107 = true then (check_wrong.j5 kj37 a1 (decide ((mx (wrap64 (a0_1)) (wrap64 (a0_2))) ≥ a1)) a0_0 a0_1 a0_2 a0_3) else (check_wrong.j5 kj37 a1 false a0_0 a0_1 a0_2 a0_3)) = some r := H
                                    have A46 := Aside0.mk A460
                                    clear A460
                                    by_cases c47 : t107 = true
                                    · subst c47
                                      have H1 : (check_wrong.j5 kj37 a1 (decide ((mx (wrap64 (a0_1)) (wrap64 (a0_2))) ≥ a1)) a0_0 a0_1 a0_2 a0_3) = some r := by rw [if_pos rfl] at H; exact H
                                      clear H
                                      have H := H1
                                      clear H1
                                      obtain ⟨ji48, hji48⟩ : ∃ j_ : Int, (mx (wrap64 (a0_1)) (wrap64 (a0_2))) = j_ := ⟨_, rfl⟩
                                      replace H : (check_wrong.j5 kj37 a1 (decide ((ji48) ≥ a1)) a0_0 a0_1 a0_2 a0_3) = some r := by first | (rw [hji48] at H; exact H) | (simp only [hji48] at H ⊢; exact H)
                                      (try rw [hji48] at A46)
                                      have hji48_ : (if (wrap64 (a0_1)) < (wrap64 (a0_2)) then (wrap64 (a0_2)) else (wrap64 (a0_1))) = ji48 := hji48
                                      have H' := Aside0.mk H
                                      clear H
                                      obtain ⟨hcz49_0, hcz49_1, hcz49_2, hcz49_3⟩ := Mine.cells4 BK105.out
                                      have hfz49_0 := blk_frozen BK105.out
                                      go_wp2_with (first | (go_at_call 38; (with_reducible refine (insn_Jumps.calls a0_0 true _ A46.out).mono ?_); rintro e w' ⟨rfl, ⟨nd, rfl⟩⟩))
                                      go_meet
                                      case rel => exact ⟨_, (decide ((ji48) ≥ a1)), (by first | rfl | (simp; done) | (simp only [← hji48] <;> (first | rfl | simp)) | (simp [*]; done)), H', ⟨by have := HJ4.out; have := HJ14.out; have := HJ25.out; have := HJ29.out; have := HJ37.out; first | omega | exact Nat.le_refl _⟩, ⟨by (with_reducible repeat (first | refine blk_drewN ?_ _ | refine blk_drew ?_ | refine blk_alloc ?_ _)); exact BK105.out⟩, ⟨by repeat (first | (with_reducible first | exact HB.out | apply below_alloc | apply pw_below_drewN | apply below_drew1 | refine below_set ?_ GE105.out) | exact HB.out)⟩⟩
                                    · replace c47 := Bool.eq_false_iff.mpr c47
                                      subst c47
                                      have H1 : (check_wrong.j5 kj37 a1 false a0_0 a0_1 a0_2 a0_3) = some r := by rw [if_neg (show ¬ (false = true) by decide)] at H; exact H
                                      clear H
                                      have H := H1
                                      clear H1
                                      have H' := Aside0.mk H
                                      clear H
                                      obtain ⟨hcz50_0, hcz50_1, hcz50_2, hcz50_3⟩ := Mine.cells4 BK105.out
                                      have hfz50_0 := blk_frozen BK105.out
                                      go_wp2_with (first | (go_at_call 38; (with_reducible refine (insn_Jumps.calls a0_0 false _ A46.out).mono ?_); rintro e w' ⟨rfl, ⟨nd, rfl⟩⟩))
                                      go_meet
                                      case rel => exact ⟨_, (false), (by first | rfl | (simp; done) | (simp [*]; done)), H', ⟨by have := HJ4.out; have := HJ14.out; have := HJ25.out; have := HJ29.out; have := HJ37.out; first | omega | exact Nat.le_refl _⟩, ⟨by (with_reducible repeat (first | refine blk_drewN ?_ _ | refine blk_drew ?_ | refine blk_alloc ?_ _)); exact BK105.out⟩, ⟨by repeat (first | (with_reducible first | exact HB.out | apply below_alloc | apply pw_below_drewN | apply below_drew1 | refine below_set ?_ GE105.out) | exact HB.out)⟩⟩
                                case rest =>
                                  clear HC43
                                  try clear c1
                                  try clear c2
                                  try clear p2
                                  try clear c3
                                  try clear c4
                                  try clear p6
                                  try clear c9
                                  try clear c9b0
                                  try clear c9b1
                                  try clear c10
                                  try clear c10b0
                                  try clear c10b1
                                  try clear c14
                                  try clear c16
                                  try clear c16b0
                                  try clear c16b1
                                  try clear c18
                                  try clear c18b0
                                  try clear c18b1
                                  try clear c20
                                  try clear c20b0
                                  try clear c20b1
                                  try clear c22
                                  try clear c22b0
                                  try clear c22b1
                                  try clear c25
                                  try clear c27
                                  try clear c27b0
                                  try clear c27b1
                                  try clear c31
                                  try clear c32
                                  try clear c32b0
                                  try clear c32b1
                                  try clear c34
                                  try clear c34b0
                                  try clear c34b1
                                  try clear c37
                                  try clear c39
                                  try clear c39b0
                                  try clear c39b1
                                  try clear c42
                                  try clear c44
                                  try clear c44b0
                                  try clear c44b1
                                  try clear c47
                                  try clear hcz11_0 hcz11_1 hcz11_2 hcz11_3
                                  try clear hcz12_0 hcz12_1 hcz12_2 hcz12_3
                                  try clear hcz13_0 hcz13_1 hcz13_2 hcz13_3
                                  try clear hcz17_0 hcz17_1 hcz17_2 hcz17_3
                                  try clear hcz19_0 hcz19_1 hcz19_2 hcz19_3
                                  try clear hcz21_0 hcz21_1 hcz21_2 hcz21_3
                                  try clear hcz23_0 hcz23_1 hcz23_2 hcz23_3
                                  try clear hcz24_0 hcz24_1 hcz24_2 hcz24_3
                                  try clear hcz28_0 hcz28_1 hcz28_2 hcz28_3
                                  try clear hcz29_0 hcz29_1 hcz29_2 hcz29_3
                                  try clear hcz33_0 hcz33_1 hcz33_2 hcz33_3
                                  try clear hcz35_0 hcz35_1 hcz35_2 hcz35_3
                                  try clear hcz36_0 hcz36_1 hcz36_2 hcz36_3
                                  try clear hcz40_0 hcz40_1 hcz40_2 hcz40_3
                                  try clear hcz41_0 hcz41_1 hcz41_2 hcz41_3
                                  try clear hcz45_0 hcz45_1 hcz45_2 hcz45_3
                                  try clear hcz49_0 hcz49_1 hcz49_2 hcz49_3
                                  try clear hcz50_0 hcz50_1 hcz50_2 hcz50_3
                                  try clear hcz7_0 hcz7_1 hcz7_2 hcz7_3
                                  try clear hfz11_0
                                  try clear hfz12_0
                                  try clear hfz13_0
                                  try clear hfz17_0
                                  try clear hfz19_0
                                  try clear hfz21_0
                                  try clear hfz23_0
                                  try clear hfz24_0
                                  try clear hfz28_0
                                  try clear hfz29_0
                                  try clear hfz33_0
                                  try clear hfz35_0
                                  try clear hfz36_0
                                  try clear hfz40_0
                                  try clear hfz41_0
                                  try clear hfz45_0
                                  try clear hfz49_0
                                  try clear hfz50_0
                                  try clear hfz7_0
                                  try clear p2
                                  obtain ⟨kq, x83_42, rfl, HA, HJ42, BK105, HB⟩ := hcut
                                  cases kq with
                                  | zero => exact absurd HA.out (by simp [check_wrong.j5])
                                  | succ kj42 =>
                                    have H := HA.out
                                    clear HA
                                    simp only [check_wrong.j5] at H
                                    by_cases c51 : x83_42 = true
                                    · subst c51
                                      have H1 : (some 14) = some r := by rw [if_pos rfl] at H; exact H
                                      clear H
                                      have H := H1
                                      clear H1
                                      obtain rfl := Option.some.inj H
                                      go_wp2
                                      go_ret
                                      exact ⟨by first | rfl | (simp [errW_none, errW_some] <;> rfl) | (simp [*, errW_none, errW_some] <;> rfl), by repeat (first | (with_reducible first | exact HB.out | apply below_alloc | apply pw_below_drewN | apply below_drew1 | refine below_set ?_ GE105.out) | exact HB.out)⟩
                                    · replace c51 := Bool.eq_false_iff.mpr c51
                                      subst c51
                                      have H1 : (if a1 = 0 then ((insn_Ends.f a0_0).bind fun t108 => (if t108 = true then (some 0) else (some 15))) else (some 0)) = some r := by rw [if_neg (show ¬ (false = true) by decide)] at H; exact H
                                      clear H
                                      have H := H1
                                      clear H1
                                      by_cases c52 : a1 = 0
                                      · rw [if_pos c52] at H
                                        have c52b0 : (a1 == 0) = true := beq_iff_eq.mpr c52
                                        have c52b1 : (a1 != 0) = false := bne_eq_false_iff_eq.mpr c52
                                        clear c52
                                        replace H := Option.bind_eq_some_iff.mp H
                                        obtain ⟨t108, A530, H⟩ := H
                                        replace H : (if t108 = true then (some 0) else (some 15)) = some r := H
                                        have A53 := Aside0.mk A530
                                        clear A530
                                        by_cases c54 : t108 = true
                                        · subst c54
                                          have H1 : (some 0) = some r := by rw [if_pos rfl] at H; exact H
                                          clear H
                                          have H := H1
                                          clear H1
                                          obtain rfl := Option.some.inj H
                                          obtain ⟨hcz55_0, hcz55_1, hcz55_2, hcz55_3⟩ := Mine.cells4 BK105.out
                                          have hfz55_0 := blk_frozen BK105.out
                                          go_wp2_with (first | (go_at_call 39; (with_reducible refine (insn_Ends.calls a0_0 true _ A53.out).mono ?_); rintro e w' ⟨rfl, ⟨nd, rfl⟩⟩))
                                          go_ret
                                          exact ⟨by first | rfl | (simp [errW_none, errW_some] <;> rfl) | (simp [*, errW_none, errW_some] <;> rfl), by repeat (first | (with_reducible first | exact HB.out | apply below_alloc | apply pw_below_drewN | apply below_drew1 | refine below_set ?_ GE105.out) | exact HB.out)⟩
                                        · replace c54 := Bool.eq_false_iff.mpr c54
                                          subst c54
                                          have H1 : (some 15) = some r := by rw [if_neg (show ¬ (false = true) by decide)] at H; exact H
                                          clear H
                                          have H := H1
                                          clear H1
                                          obtain rfl := Option.some.inj H
                                          obtain ⟨hcz56_0, hcz56_1, hcz56_2, hcz56_3⟩ := Mine.cells4 BK105.out
                                          have hfz56_0 := blk_frozen BK105.out
                                          go_wp2_with (first | (go_at_call 39; (with_reducible refine (insn_Ends.calls a0_0 false _ A53.out).mono ?_); rintro e w' ⟨rfl, ⟨nd, rfl⟩⟩))
                                          go_ret
                                          exact ⟨by first | rfl | (simp [errW_none, errW_some] <;> rfl) | (simp [*, errW_none, errW_some] <;> rfl), by repeat (first | (with_reducible first | exact HB.out | apply below_alloc | apply pw_below_drewN | apply below_drew1 | refine below_set ?_ GE105.out) | exact HB.out)⟩
                                      · rw [if_neg c52] at H
                                        have c52b0 : (a1 == 0) = false := beq_eq_false_iff_ne.mpr c52
                                        have c52b1 : (a1 != 0) = true := bne_iff_ne.mpr c52
                                        obtain rfl := Option.some.inj H
                                        go_wp2
                                        go_ret
                                        exact ⟨by first | rfl | (simp [errW_none, errW_some] <;> rfl) | (simp [*, errW_none, errW_some] <;> rfl), by repeat (first | (with_reducible first | exact HB.out | apply below_alloc | apply pw_below_drewN | apply below_drew1 | refine below_set ?_ GE105.out) | exact HB.out)⟩
  · replace c4 := Bool.eq_false_iff.mpr c4
    subst c4
    have H1 : (some 11) = some r := by rw [if_neg (show ¬ (false = true) by decide)] at H; exact H
    clear H
    have H := H1
    clear H1
    obtain rfl := Option.some.inj H
    go_enter Try.func33, Try.ntmps33
    go_wp2_with (first | ((with_reducible refine gate_dst (N := 2) rfl ?_); (try (refine gate_guard (by rfl) ?_; dsimp only)); refine box_event ?hg (N := 2) ?hd (cs := #[.int .u16 a0_0, .int .u8 a0_1, .int .u8 a0_2, .int .u32 a0_3]) (t := 53) ?hr ?_; (case hd => rfl); (case hg => rfl); (case hr => first | (go_simp; done) | (go_simp; rfl)); intro gb105 hg w57 hbox hb; have n0_ := Aside0.mk (below_step (by repeat (first | (with_reducible first | exact HB.out | apply below_alloc | apply pw_below_drewN | apply below_drew1) | exact HB.out)) hb); have n1_ := Aside0.mk (hbox); have n2_ := Aside0.mk ((by rw [hg]; exact (below_size (by repeat (first | (with_reducible first | exact HB.out | apply below_alloc | apply pw_below_drewN | apply below_drew1) | exact HB.out))) : w.heap.size ≤ gb105)); have n3_ := Aside0.mk ((by rw [hg]; exact (below_size (by repeat (first | (with_reducible first | exact HB.out | apply below_alloc | apply pw_below_drewN | apply below_drew1) | exact HB.out))) : w.heap.size ≤ gb105)); clear HB; have HB := n0_; have BK105 := n1_; have GW105 := n2_; have GE105 := n3_; clear n0_ n1_ n2_ n3_; clear hb hbox hg; obtain ⟨hcz58_0, hcz58_1, hcz58_2, hcz58_3⟩ := Mine.cells4 BK105.out; have hfz58_0 := blk_frozen BK105.out) | ((with_reducible refine gate_callee (f := 37) rfl ?_); refine goesL_ (some 8) rfl rfl Try.func37 (by kernel_rfl) rfl #[.int .u16 a0_0] rfl (by (try simp only [List.map_toArray, List.map_cons, List.map_nil]); first | done | rfl | (simp only [List.length_drop, List.length_take]; rfl)) ?_; (with_reducible refine (insn_Known.calls k a0_0 false _ A3.out).mono ?_); rintro e w59 ⟨rfl, hb⟩; refine ⟨_, rfl, ?_⟩; have n0_ := Aside0.mk (blk_below (g := gb105) (o := .cells #[.int .u16 a0_0, .int .u8 a0_1, .int .u8 a0_2, .int .u32 a0_3] 53 (0, 0)) (by (with_reducible repeat (first | refine blk_drewN ?_ _ | refine blk_drew ?_ | refine blk_alloc ?_ _)); exact BK105.out) hb); have n1_ := Aside0.mk (below_step (by repeat (first | (with_reducible first | exact HB.out | apply below_alloc | apply pw_below_drewN | apply below_drew1 | refine below_set ?_ GE105.out) | exact HB.out)) hb); clear BK105; clear HB; have BK105 := n0_; have HB := n1_; clear n0_ n1_; (try clear hb); (try clear hb2); (try clear hk); (try clear hi)))
    go_ret
    exact ⟨by first | rfl | (simp [errW_none, errW_some] <;> rfl) | (simp [*, errW_none, errW_some] <;> rfl), by repeat (first | (with_reducible first | exact HB.out | apply below_alloc | apply pw_below_drewN | apply below_drew1 | refine below_set ?_ GE105.out) | exact HB.out)⟩
end Go.Proofs.Yteojfjlklikaoaa.M
