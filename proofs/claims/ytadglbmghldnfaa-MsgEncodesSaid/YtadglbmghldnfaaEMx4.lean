-- Laid by a program (wip/tools/myprint.py) out of the loaded program's own print: for each Go function a Lean function and the proof of its contract.
import Derived.Test.YtadglbmghldnfaaEMx0
import Derived.Test.YtadglbmghldnfaaEMx1
namespace Go.Proofs.Ytadglbmghldnfaa.M
open Go.RowKit Go.Proofs.YtadglbmghldnfaaW.PrintWords Go.Proofs.YtadglbmghldnfaaW.PrintLast Go.Proofs.YtadglbmghldnfaaW.PrintMore
attribute [local go_sem] max2_int min2_int max_two min_two max_three min_three max_four min_four   -- for this text's walks alone
set_option linter.unusedVariables false
set_option linter.unusedSimpArgs false
attribute [local go_sem high] eqA26
def msg_bears.f (a0 : Int) : Option (Bool × Bool × Bool) := if a0 = 4 then (some (decide (a0 > 1), (a0 == 2), true)) else (if a0 = 5 then (some (decide (a0 > 1), (a0 == 2), true)) else (some (decide (a0 > 1), (a0 == 2), (a0 == 7))))
set_option maxHeartbeats 8000000 in
set_option maxRecDepth 100000 in
theorem msg_bears.calls (a0 : Int) (r1 : Bool) (r2 : Bool) (r3 : Bool) (w : World) (h : msg_bears.f a0 = some (r1, r2, r3)) :
  Calls Try.prog 15 #[.int .i64 a0] w fun e w' => e = .returned (.tuple #[.bool r1, .bool r2, .bool r3]) ∧ Drawn0 w w' := by
 have H : (if a0 = 4 then (some (decide (a0 > 1), (a0 == 2), true)) else (if a0 = 5 then (some (decide (a0 > 1), (a0 == 2), true)) else (some (decide (a0 > 1), (a0 == 2), (a0 == 7))))) = some (r1, r2, r3) := h
 clear h
 by_cases c2 : a0 = 4
 ·rw [if_pos c2] at H
  have c2b0 : (a0 == 4) = true := beq_iff_eq.mpr c2
  have c2b1 : (a0 != 4) = false := bne_eq_false_iff_eq.mpr c2
  clear c2
  simp only [Option.some.injEq, Prod.mk.injEq] at H
  obtain ⟨rfl, rfl, rfl⟩ := H
  go_enter Try.func15, Try.ntmps15
  go_wp2
  go_ret3
  exact ⟨by first | rfl | (simp; done) | (simp [*]; done), by repeat (first | exact Drawn0.refl _ | apply Drawn0.step)⟩
 ·rw [if_neg c2] at H
  have c2b0 : (a0 == 4) = false := beq_eq_false_iff_ne.mpr c2
  have c2b1 : (a0 != 4) = true := bne_iff_ne.mpr c2
  by_cases c3 : a0 = 5
  ·rw [if_pos c3] at H
   have c3b0 : (a0 == 5) = true := beq_iff_eq.mpr c3
   have c3b1 : (a0 != 5) = false := bne_eq_false_iff_eq.mpr c3
   clear c3
   simp only [Option.some.injEq, Prod.mk.injEq] at H
   obtain ⟨rfl, rfl, rfl⟩ := H
   go_enter Try.func15, Try.ntmps15
   go_wp2
   go_ret3
   exact ⟨by first | rfl | (simp; done) | (simp [*]; done), by repeat (first | exact Drawn0.refl _ | apply Drawn0.step)⟩
  ·rw [if_neg c3] at H
   have c3b0 : (a0 == 5) = false := beq_eq_false_iff_ne.mpr c3
   have c3b1 : (a0 != 5) = true := bne_iff_ne.mpr c3
   simp only [Option.some.injEq, Prod.mk.injEq] at H
   obtain ⟨rfl, rfl, rfl⟩ := H
   go_enter Try.func15, Try.ntmps15
   go_wp2
   go_ret3
   exact ⟨by first | rfl | (simp; done) | (simp [*]; done), by repeat (first | exact Drawn0.refl _ | apply Drawn0.step)⟩
mutual
def msg_Right.j0 : Nat → Bool → Int → Int → Int → Int → Int → Int → Int → Int → Int → Int → Int → Int → Int → Int → ByteArray → Option (Bool)
 | 0, _, _, _, _, _, _, _, _, _, _, _, _, _, _, _, _ => none
 | k + 1, x14, Z0, Z1, Z2, Z3, Z4, Z5, Z6, Z7, Z8, Z9, Za, Zb, Zc, Zd, Ze => if x14 = true then (some false) else ((msg_bears.f Z0).bind fun bt102 => (if Z0 = 7 then (msg_Right.j1 k bt102.1 bt102.2.1 bt102.2.2 1 Z0 Z1 Z2 Z3 Z4 Z5 Z6 Z7 Z8 Z9 Za Zb Zc Zd Ze) else (msg_Right.j1 k bt102.1 bt102.2.1 bt102.2.2 65535 Z0 Z1 Z2 Z3 Z4 Z5 Z6 Z7 Z8 Z9 Za Zb Zc Zd Ze)))
def msg_Right.j1 : Nat → Bool → Bool → Bool → Int → Int → Int → Int → Int → Int → Int → Int → Int → Int → Int → Int → Int → Int → Int → ByteArray → Option (Bool)
 | 0, _, _, _, _, _, _, _, _, _, _, _, _, _, _, _, _, _, _, _ => none
 | k + 1, x3, x4, x5, x6, Z0, Z1, Z2, Z3, Z4, Z5, Z6, Z7, Z8, Z9, Za, Zb, Zc, Zd, Ze => if x5 = true then (if x4 = true then (if Z3 < 1 then (some false) else (if Z3 > 4 then (some false) else (if (Ze.size : Int) > 256 then (some false) else (if x3 = true then (if Z4 ≥ 0 then (some (decide (Z4 ≤ x6))) else (some false)) else (if Z2 = 0 then (if Z4 ≥ 0 then (some (decide (Z4 ≤ x6))) else (some false)) else (some false)))))) else (if Z3 = 0 then (if Ze.toList = ([] : List UInt8) then (if (!(Z5 == 0) || (!(Z6 == 0) || (!(Z7 == 0) || ((!(Z8 == 0) || (!(Z9 == 0) || (!(Za == 0) || (!(Zb == 0) || (!(Zc == 0) || (!(Zd == 0))))))))))) = true then (some false) else (if x3 = true then (if Z4 ≥ 0 then (some (decide (Z4 ≤ x6))) else (some false)) else (if Z2 = 0 then (if Z4 ≥ 0 then (some (decide (Z4 ≤ x6))) else (some false)) else (some false)))) else (some false)) else (some false))) else (if x4 = true then (if Z3 < 1 then (some false) else (if Z3 > 4 then (some false) else (if (Ze.size : Int) > 256 then (some false) else (if x3 = true then (if Z4 ≥ 0 then (some (decide (Z4 ≤ 0))) else (some false)) else (if Z2 = 0 then (if Z4 ≥ 0 then (some (decide (Z4 ≤ 0))) else (some false)) else (some false)))))) else (if Z3 = 0 then (if Ze.toList = ([] : List UInt8) then (if (!(Z5 == 0) || (!(Z6 == 0) || (!(Z7 == 0) || ((!(Z8 == 0) || (!(Z9 == 0) || (!(Za == 0) || (!(Zb == 0) || (!(Zc == 0) || (!(Zd == 0))))))))))) = true then (some false) else (if x3 = true then (if Z4 ≥ 0 then (some (decide (Z4 ≤ 0))) else (some false)) else (if Z2 = 0 then (if Z4 ≥ 0 then (some (decide (Z4 ≤ 0))) else (some false)) else (some false)))) else (some false)) else (some false)))
end
def msg_Right.f (k : Nat) (a0_0 : Int) (a0_1 : Int) (a0_2 : Int) (a0_3 : Int) (a0_4 : Int) (a0_5 : Int) (a0_6 : Int) (a0_7 : Int) (a0_8 : Int) (a0_9 : Int) (a0_10 : Int) (a0_11 : Int) (a0_12 : Int) (a0_13 : Int) (a0_14 : ByteArray) : Option (Bool) := if a0_0 < 1 then (msg_Right.j0 k true a0_0 a0_1 a0_2 a0_3 a0_4 a0_5 a0_6 a0_7 a0_8 a0_9 a0_10 a0_11 a0_12 a0_13 a0_14) else (msg_Right.j0 k (decide (a0_0 > 7)) a0_0 a0_1 a0_2 a0_3 a0_4 a0_5 a0_6 a0_7 a0_8 a0_9 a0_10 a0_11 a0_12 a0_13 a0_14)
set_option maxHeartbeats 8000000 in
set_option maxRecDepth 100000 in
theorem msg_Right.calls (k : Nat) (a0_0 : Int) (a0_1 : Int) (a0_2 : Int) (a0_3 : Int) (a0_4 : Int) (a0_5 : Int) (a0_6 : Int) (a0_7 : Int) (a0_8 : Int) (a0_9 : Int) (a0_10 : Int) (a0_11 : Int) (a0_12 : Int) (a0_13 : Int) (a0_14 : ByteArray) (r : Bool) (w : World) (h : msg_Right.f k a0_0 a0_1 a0_2 a0_3 a0_4 a0_5 a0_6 a0_7 a0_8 a0_9 a0_10 a0_11 a0_12 a0_13 a0_14 = some r) :
  Calls Try.prog 11 #[.agg #[.int .i64 a0_0, .int .u64 a0_1, .int .u64 a0_2, .int .i64 a0_3, .int .i64 a0_4, .int .u32 a0_5, .int .u32 a0_6, .int .u64 a0_7, .int .u64 a0_8, .int .u64 a0_9, .int .u64 a0_10, .int .u64 a0_11, .int .u64 a0_12, .int .u64 a0_13, .string a0_14]] w fun e w' => e = .returned (.bool r) ∧ Below w.heap.size w w' := by
 have hu28 := Try.underlying28
 have hu26 := Try.underlying26
 have HB := Aside0.mk (Below.refl w.heap.size w)
 have H : (if a0_0 < 1 then (msg_Right.j0 k true a0_0 a0_1 a0_2 a0_3 a0_4 a0_5 a0_6 a0_7 a0_8 a0_9 a0_10 a0_11 a0_12 a0_13 a0_14) else (msg_Right.j0 k (decide (a0_0 > 7)) a0_0 a0_1 a0_2 a0_3 a0_4 a0_5 a0_6 a0_7 a0_8 a0_9 a0_10 a0_11 a0_12 a0_13 a0_14)) = some r := h
 clear h
 have HC2 := Aside0.mk H
 clear H
 go_enter Try.func11, Try.ntmps11
 go_upto_region 1 with (first | ((with_reducible refine gate_dst (N := 1) rfl ?_); (try (refine gate_guard (by rfl) ?_; dsimp only)); refine box_event ?hg (N := 1) ?hd (cs := #[.int .i64 a0_0, .int .u64 a0_1, .int .u64 a0_2, .int .i64 a0_3, .int .i64 a0_4, .int .u32 a0_5, .int .u32 a0_6, .int .u64 a0_7, .int .u64 a0_8, .int .u64 a0_9, .int .u64 a0_10, .int .u64 a0_11, .int .u64 a0_12, .int .u64 a0_13, .string a0_14]) (t := 28) ?hr ?_; (case hd => rfl); (case hg => rfl); (case hr => first | (go_simp; done) | (go_simp; rfl)); intro gb101 hg w3 hbox hb; have n0_ := Aside0.mk (below_step (by repeat (first | (with_reducible first | exact HB.out | apply below_alloc | apply pw_below_drewN | apply below_drew1) | exact HB.out)) hb); have n1_ := Aside0.mk (hbox); have n2_ := Aside0.mk ((by rw [hg]; exact (below_size (by repeat (first | (with_reducible first | exact HB.out | apply below_alloc | apply pw_below_drewN | apply below_drew1) | exact HB.out))) : w.heap.size ≤ gb101)); have n3_ := Aside0.mk ((by rw [hg]; exact (below_size (by repeat (first | (with_reducible first | exact HB.out | apply below_alloc | apply pw_below_drewN | apply below_drew1) | exact HB.out))) : w.heap.size ≤ gb101)); clear HB; have HB := n0_; have BK101 := n1_; have GW101 := n2_; have GE101 := n3_; clear n0_ n1_ n2_ n3_; clear hb hbox hg))
 (try simp only [Act.put, List.setIfInBounds_toArray, List.set_cons_zero, List.set_cons_succ])
 go_cut [14] (fun v14 wc => ∃ (kq : Nat) (x14_1 : Bool), v14 = .bool x14_1 ∧ Aside0 (msg_Right.j0 kq x14_1 a0_0 a0_1 a0_2 a0_3 a0_4 a0_5 a0_6 a0_7 a0_8 a0_9 a0_10 a0_11 a0_12 a0_13 a0_14 = some r) ∧ Aside0 (kq ≤ k) ∧ Aside0 (wc.heap[gb101]? = some (.cells #[.int .i64 a0_0, .int .u64 a0_1, .int .u64 a0_2, .int .i64 a0_3, .int .i64 a0_4, .int .u32 a0_5, .int .u32 a0_6, .int .u64 a0_7, .int .u64 a0_8, .int .u64 a0_9, .int .u64 a0_10, .int .u64 a0_11, .int .u64 a0_12, .int .u64 a0_13, .string a0_14] 28 (0, 0))) ∧ Aside0 (Below w.heap.size w wc))
 case first =>
  have H := HC2.out
  clear HC2
  by_cases c4 : a0_0 < 1
  ·rw [if_pos c4] at H
   have c4b0 : decide (a0_0 < 1) = true := decide_eq_true c4
   clear c4
   (first | rw [c4b0] | (simp only [i64_w, i32_w]; rw [c4b0]) | skip)
   have H' := Aside0.mk H
   clear H
   obtain ⟨hcz5_0, hcz5_1, hcz5_2, hcz5_3, hcz5_4, hcz5_5, hcz5_6, hcz5_7, hcz5_8, hcz5_9, hcz5_10, hcz5_11, hcz5_12, hcz5_13, hcz5_14⟩ := Mine.cells15 BK101.out
   have hfz5_0 := blk_frozen BK101.out
   go_wp2
   go_meet
   case rel => exact ⟨_, (true), (by first | rfl | (simp; done) | (simp [*]; done)), H', ⟨by first | omega | exact Nat.le_refl _⟩, ⟨by (with_reducible repeat (first | refine blk_drewN ?_ _ | refine blk_drew ?_ | refine blk_alloc ?_ _)); exact BK101.out⟩, ⟨by repeat (first | (with_reducible first | exact HB.out | apply below_alloc | apply pw_below_drewN | apply below_drew1 | refine below_set ?_ GE101.out) | exact HB.out)⟩⟩
  ·rw [if_neg c4] at H
   have c4b0 : decide (a0_0 < 1) = false := decide_eq_false c4
   clear c4
   (first | rw [c4b0] | (simp only [i64_w, i32_w]; rw [c4b0]) | skip)
   have H' := Aside0.mk H
   clear H
   obtain ⟨hcz6_0, hcz6_1, hcz6_2, hcz6_3, hcz6_4, hcz6_5, hcz6_6, hcz6_7, hcz6_8, hcz6_9, hcz6_10, hcz6_11, hcz6_12, hcz6_13, hcz6_14⟩ := Mine.cells15 BK101.out
   have hfz6_0 := blk_frozen BK101.out
   go_wp2
   go_meet
   case rel => exact ⟨_, (decide (a0_0 > 7)), (by first | rfl | (simp; done) | (simp [*]; done)), H', ⟨by first | omega | exact Nat.le_refl _⟩, ⟨by (with_reducible repeat (first | refine blk_drewN ?_ _ | refine blk_drew ?_ | refine blk_alloc ?_ _)); exact BK101.out⟩, ⟨by repeat (first | (with_reducible first | exact HB.out | apply below_alloc | apply pw_below_drewN | apply below_drew1 | refine below_set ?_ GE101.out) | exact HB.out)⟩⟩
 case rest =>
  clear HC2
  try clear c1
  try clear p2
  try clear c4
  try clear c4b0
  try clear hcz5_0 hcz5_1 hcz5_10 hcz5_11 hcz5_12 hcz5_13 hcz5_14 hcz5_2 hcz5_3 hcz5_4 hcz5_5 hcz5_6 hcz5_7 hcz5_8 hcz5_9
  try clear hcz6_0 hcz6_1 hcz6_10 hcz6_11 hcz6_12 hcz6_13 hcz6_14 hcz6_2 hcz6_3 hcz6_4 hcz6_5 hcz6_6 hcz6_7 hcz6_8 hcz6_9
  try clear hfz5_0
  try clear hfz6_0
  obtain ⟨kq, x14_1, rfl, HA, HJ1, BK101, HB⟩ := hcut
  cases kq with
  | zero => exact absurd HA.out (by simp [msg_Right.j0])
  | succ kj1 =>
   have H := HA.out
   clear HA
   simp only [msg_Right.j0] at H
   by_cases c7 : x14_1 = true
   ·subst c7
    have H1 : (some false) = some r := by rw [if_pos rfl] at H; exact H
    clear H
    have H := H1
    clear H1
    obtain rfl := Option.some.inj H
    go_wp2
    go_ret
    exact ⟨by first | rfl | (simp [errW_none, errW_some] <;> rfl) | (simp [*, errW_none, errW_some] <;> rfl), by repeat (first | (with_reducible first | exact HB.out | apply below_alloc | apply pw_below_drewN | apply below_drew1 | refine below_set ?_ GE101.out) | exact HB.out)⟩
   ·replace c7 := Bool.eq_false_iff.mpr c7
    subst c7
    have H1 : ((msg_bears.f a0_0).bind fun bt102 => (if a0_0 = 7 then (msg_Right.j1 kj1 bt102.1 bt102.2.1 bt102.2.2 1 a0_0 a0_1 a0_2 a0_3 a0_4 a0_5 a0_6 a0_7 a0_8 a0_9 a0_10 a0_11 a0_12 a0_13 a0_14) else (msg_Right.j1 kj1 bt102.1 bt102.2.1 bt102.2.2 65535 a0_0 a0_1 a0_2 a0_3 a0_4 a0_5 a0_6 a0_7 a0_8 a0_9 a0_10 a0_11 a0_12 a0_13 a0_14))) = some r := by rw [if_neg (show ¬ (false = true) by decide)] at H; exact H
    clear H
    have H := H1
    clear H1
    replace H := Option.bind_eq_some_iff.mp H
    obtain ⟨⟨t102, t103, t104⟩, A80, H⟩ := H
    replace H : (if a0_0 = 7 then (msg_Right.j1 kj1 t102 t103 t104 1 a0_0 a0_1 a0_2 a0_3 a0_4 a0_5 a0_6 a0_7 a0_8 a0_9 a0_10 a0_11 a0_12 a0_13 a0_14) else (msg_Right.j1 kj1 t102 t103 t104 65535 a0_0 a0_1 a0_2 a0_3 a0_4 a0_5 a0_6 a0_7 a0_8 a0_9 a0_10 a0_11 a0_12 a0_13 a0_14)) = some r := H
    have A8 := Aside0.mk A80
    clear A80
    have HC9 := Aside0.mk H
    clear H
    obtain ⟨hcz10_0, hcz10_1, hcz10_2, hcz10_3, hcz10_4, hcz10_5, hcz10_6, hcz10_7, hcz10_8, hcz10_9, hcz10_10, hcz10_11, hcz10_12, hcz10_13, hcz10_14⟩ := Mine.cells15 BK101.out
    have hfz10_0 := blk_frozen BK101.out
    go_upto_if 24 with (first | ((with_reducible refine gate_callee (f := 15) rfl ?_); refine goesL_ (some 18) rfl rfl Try.func15 (by kernel_rfl) rfl #[.int .i64 a0_0] rfl (by (try simp only [List.map_toArray, List.map_cons, List.map_nil]); first | done | rfl | (simp only [List.length_drop, List.length_take]; rfl)) ?_; (with_reducible refine (msg_bears.calls a0_0 t102 t103 t104 _ A8.out).mono ?_); rintro e w' ⟨rfl, ⟨nd, rfl⟩⟩; refine ⟨_, rfl, ?_⟩))
    (try simp only [Act.put, List.setIfInBounds_toArray, List.set_cons_zero, List.set_cons_succ])
    go_cut [6] (fun v6 wc => ∃ (kq : Nat) (x6_8 : Int), v6 = .int .i64 x6_8 ∧ Aside0 (msg_Right.j1 kq t102 t103 t104 x6_8 a0_0 a0_1 a0_2 a0_3 a0_4 a0_5 a0_6 a0_7 a0_8 a0_9 a0_10 a0_11 a0_12 a0_13 a0_14 = some r) ∧ Aside0 (kq ≤ kj1) ∧ Aside0 (wc.heap[gb101]? = some (.cells #[.int .i64 a0_0, .int .u64 a0_1, .int .u64 a0_2, .int .i64 a0_3, .int .i64 a0_4, .int .u32 a0_5, .int .u32 a0_6, .int .u64 a0_7, .int .u64 a0_8, .int .u64 a0_9, .int .u64 a0_10, .int .u64 a0_11, .int .u64 a0_12, .int .u64 a0_13, .string a0_14] 28 (0, 0))) ∧ Aside0 (Below w.heap.size w wc))
    case first =>
     have H := HC9.out
     clear HC9
     by_cases c11 : a0_0 = 7
     ·rw [if_pos c11] at H
      have c11b0 : (a0_0 == 7) = true := beq_iff_eq.mpr c11
      have c11b1 : (a0_0 != 7) = false := bne_eq_false_iff_eq.mpr c11
      clear c11
      (first | rw [c11b0] | (simp only [i64_w, i32_w]; rw [c11b0]) | skip)
      have H' := Aside0.mk H
      clear H
      go_wp2
      go_meet
      case rel => exact ⟨_, (1), (by first | rfl | (simp; done) | (simp [*]; done)), H', ⟨by have := HJ1.out; first | omega | exact Nat.le_refl _⟩, ⟨by (with_reducible repeat (first | refine blk_drewN ?_ _ | refine blk_drew ?_ | refine blk_alloc ?_ _)); exact BK101.out⟩, ⟨by repeat (first | (with_reducible first | exact HB.out | apply below_alloc | apply pw_below_drewN | apply below_drew1 | refine below_set ?_ GE101.out) | exact HB.out)⟩⟩
     ·rw [if_neg c11] at H
      have c11b0 : (a0_0 == 7) = false := beq_eq_false_iff_ne.mpr c11
      have c11b1 : (a0_0 != 7) = true := bne_iff_ne.mpr c11
      (first | rw [c11b0] | (simp only [i64_w, i32_w]; rw [c11b0]) | skip)
      have H' := Aside0.mk H
      clear H
      go_wp2
      go_meet
      case rel => exact ⟨_, (65535), (by first | rfl | (simp; done) | (simp [*]; done)), H', ⟨by have := HJ1.out; first | omega | exact Nat.le_refl _⟩, ⟨by (with_reducible repeat (first | refine blk_drewN ?_ _ | refine blk_drew ?_ | refine blk_alloc ?_ _)); exact BK101.out⟩, ⟨by repeat (first | (with_reducible first | exact HB.out | apply below_alloc | apply pw_below_drewN | apply below_drew1 | refine below_set ?_ GE101.out) | exact HB.out)⟩⟩
    case rest =>
     clear HC9
     try clear c1
     try clear p2
     try clear c4
     try clear c4b0
     try clear c7
     try clear c11
     try clear c11b0
     try clear c11b1
     try clear hcz10_0 hcz10_1 hcz10_10 hcz10_11 hcz10_12 hcz10_13 hcz10_14 hcz10_2 hcz10_3 hcz10_4 hcz10_5 hcz10_6 hcz10_7 hcz10_8 hcz10_9
     try clear hcz5_0 hcz5_1 hcz5_10 hcz5_11 hcz5_12 hcz5_13 hcz5_14 hcz5_2 hcz5_3 hcz5_4 hcz5_5 hcz5_6 hcz5_7 hcz5_8 hcz5_9
     try clear hcz6_0 hcz6_1 hcz6_10 hcz6_11 hcz6_12 hcz6_13 hcz6_14 hcz6_2 hcz6_3 hcz6_4 hcz6_5 hcz6_6 hcz6_7 hcz6_8 hcz6_9
     try clear hfz10_0
     try clear hfz5_0
     try clear hfz6_0
     try clear p2
     obtain ⟨kq, x6_8, rfl, HA, HJ8, BK101, HB⟩ := hcut
     cases kq with
     | zero => exact absurd HA.out (by simp [msg_Right.j1])
     | succ kj8 =>
      have H := HA.out
      clear HA
      simp only [msg_Right.j1] at H
      by_cases c12 : t104 = true
      ·subst c12
       have H1 : (if t103 = true then (if a0_3 < 1 then (some false) else (if a0_3 > 4 then (some false) else (if (a0_14.size : Int) > 256 then (some false) else (if t102 = true then (if a0_4 ≥ 0 then (some (decide (a0_4 ≤ x6_8))) else (some false)) else (if a0_2 = 0 then (if a0_4 ≥ 0 then (some (decide (a0_4 ≤ x6_8))) else (some false)) else (some false)))))) else (if a0_3 = 0 then (if a0_14.toList = ([] : List UInt8) then (if (!(a0_5 == 0) || (!(a0_6 == 0) || (!(a0_7 == 0) || ((!(a0_8 == 0) || (!(a0_9 == 0) || (!(a0_10 == 0) || (!(a0_11 == 0) || (!(a0_12 == 0) || (!(a0_13 == 0))))))))))) = true then (some false) else (if t102 = true then (if a0_4 ≥ 0 then (some (decide (a0_4 ≤ x6_8))) else (some false)) else (if a0_2 = 0 then (if a0_4 ≥ 0 then (some (decide (a0_4 ≤ x6_8))) else (some false)) else (some false)))) else (some false)) else (some false))) = some r := by rw [if_pos rfl] at H; exact H
       clear H
       have H := H1
       clear H1
       by_cases c13 : t103 = true
       ·subst c13
        have H1 : (if a0_3 < 1 then (some false) else (if a0_3 > 4 then (some false) else (if (a0_14.size : Int) > 256 then (some false) else (if t102 = true then (if a0_4 ≥ 0 then (some (decide (a0_4 ≤ x6_8))) else (some false)) else (if a0_2 = 0 then (if a0_4 ≥ 0 then (some (decide (a0_4 ≤ x6_8))) else (some false)) else (some false)))))) = some r := by rw [if_pos rfl] at H; exact H
        clear H
        have H := H1
        clear H1
        by_cases c14 : a0_3 < 1
        ·rw [if_pos c14] at H
         have c14b0 : decide (a0_3 < 1) = true := decide_eq_true c14
         clear c14
         obtain rfl := Option.some.inj H
         obtain ⟨hcz15_0, hcz15_1, hcz15_2, hcz15_3, hcz15_4, hcz15_5, hcz15_6, hcz15_7, hcz15_8, hcz15_9, hcz15_10, hcz15_11, hcz15_12, hcz15_13, hcz15_14⟩ := Mine.cells15 BK101.out
         have hfz15_0 := blk_frozen BK101.out
         go_wp2
         go_ret
         exact ⟨by first | rfl | (simp [errW_none, errW_some] <;> rfl) | (simp [*, errW_none, errW_some] <;> rfl), by repeat (first | (with_reducible first | exact HB.out | apply below_alloc | apply pw_below_drewN | apply below_drew1 | refine below_set ?_ GE101.out) | exact HB.out)⟩
        ·rw [if_neg c14] at H
         have c14b0 : decide (a0_3 < 1) = false := decide_eq_false c14
         clear c14
         by_cases c16 : a0_3 > 4
         ·rw [if_pos c16] at H
          have c16b0 : decide (4 < a0_3) = true := decide_eq_true c16
          clear c16
          obtain rfl := Option.some.inj H
          obtain ⟨hcz17_0, hcz17_1, hcz17_2, hcz17_3, hcz17_4, hcz17_5, hcz17_6, hcz17_7, hcz17_8, hcz17_9, hcz17_10, hcz17_11, hcz17_12, hcz17_13, hcz17_14⟩ := Mine.cells15 BK101.out
          have hfz17_0 := blk_frozen BK101.out
          go_wp2
          go_ret
          exact ⟨by first | rfl | (simp [errW_none, errW_some] <;> rfl) | (simp [*, errW_none, errW_some] <;> rfl), by repeat (first | (with_reducible first | exact HB.out | apply below_alloc | apply pw_below_drewN | apply below_drew1 | refine below_set ?_ GE101.out) | exact HB.out)⟩
         ·rw [if_neg c16] at H
          have c16b0 : decide (4 < a0_3) = false := decide_eq_false c16
          clear c16
          by_cases c18 : (a0_14.size : Int) > 256
          ·rw [if_pos c18] at H
           have c18b0 : decide (256 < (a0_14.size : Int)) = true := decide_eq_true c18
           have c18b1 : decide (256 < a0_14.size) = true := decide_eq_true (by omega)
           clear c18
           obtain rfl := Option.some.inj H
           obtain ⟨hcz19_0, hcz19_1, hcz19_2, hcz19_3, hcz19_4, hcz19_5, hcz19_6, hcz19_7, hcz19_8, hcz19_9, hcz19_10, hcz19_11, hcz19_12, hcz19_13, hcz19_14⟩ := Mine.cells15 BK101.out
           have hfz19_0 := blk_frozen BK101.out
           go_wp2
           go_ret
           exact ⟨by first | rfl | (simp [errW_none, errW_some] <;> rfl) | (simp [*, errW_none, errW_some] <;> rfl), by repeat (first | (with_reducible first | exact HB.out | apply below_alloc | apply pw_below_drewN | apply below_drew1 | refine below_set ?_ GE101.out) | exact HB.out)⟩
          ·rw [if_neg c18] at H
           have c18b0 : decide (256 < (a0_14.size : Int)) = false := decide_eq_false c18
           have c18b1 : decide (256 < a0_14.size) = false := decide_eq_false (by omega)
           clear c18
           by_cases c20 : t102 = true
           ·subst c20
            have H1 : (if a0_4 ≥ 0 then (some (decide (a0_4 ≤ x6_8))) else (some false)) = some r := by rw [if_pos rfl] at H; exact H
            clear H
            have H := H1
            clear H1
            by_cases c21 : a0_4 ≥ 0
            ·rw [if_pos c21] at H
             have c21b0 : decide (0 ≤ a0_4) = true := decide_eq_true c21
             clear c21
             obtain rfl := Option.some.inj H
             obtain ⟨hcz22_0, hcz22_1, hcz22_2, hcz22_3, hcz22_4, hcz22_5, hcz22_6, hcz22_7, hcz22_8, hcz22_9, hcz22_10, hcz22_11, hcz22_12, hcz22_13, hcz22_14⟩ := Mine.cells15 BK101.out
             have hfz22_0 := blk_frozen BK101.out
             go_wp2
             go_ret
             exact ⟨by first | rfl | (simp [errW_none, errW_some] <;> rfl) | (simp [*, errW_none, errW_some] <;> rfl), by repeat (first | (with_reducible first | exact HB.out | apply below_alloc | apply pw_below_drewN | apply below_drew1 | refine below_set ?_ GE101.out) | exact HB.out)⟩
            ·rw [if_neg c21] at H
             have c21b0 : decide (0 ≤ a0_4) = false := decide_eq_false c21
             clear c21
             obtain rfl := Option.some.inj H
             obtain ⟨hcz23_0, hcz23_1, hcz23_2, hcz23_3, hcz23_4, hcz23_5, hcz23_6, hcz23_7, hcz23_8, hcz23_9, hcz23_10, hcz23_11, hcz23_12, hcz23_13, hcz23_14⟩ := Mine.cells15 BK101.out
             have hfz23_0 := blk_frozen BK101.out
             go_wp2
             go_ret
             exact ⟨by first | rfl | (simp [errW_none, errW_some] <;> rfl) | (simp [*, errW_none, errW_some] <;> rfl), by repeat (first | (with_reducible first | exact HB.out | apply below_alloc | apply pw_below_drewN | apply below_drew1 | refine below_set ?_ GE101.out) | exact HB.out)⟩
           ·replace c20 := Bool.eq_false_iff.mpr c20
            subst c20
            have H1 : (if a0_2 = 0 then (if a0_4 ≥ 0 then (some (decide (a0_4 ≤ x6_8))) else (some false)) else (some false)) = some r := by rw [if_neg (show ¬ (false = true) by decide)] at H; exact H
            clear H
            have H := H1
            clear H1
            by_cases c24 : a0_2 = 0
            ·rw [if_pos c24] at H
             have c24b0 : (a0_2 == 0) = true := beq_iff_eq.mpr c24
             have c24b1 : (a0_2 != 0) = false := bne_eq_false_iff_eq.mpr c24
             clear c24
             by_cases c25 : a0_4 ≥ 0
             ·rw [if_pos c25] at H
              have c25b0 : decide (0 ≤ a0_4) = true := decide_eq_true c25
              clear c25
              obtain rfl := Option.some.inj H
              obtain ⟨hcz26_0, hcz26_1, hcz26_2, hcz26_3, hcz26_4, hcz26_5, hcz26_6, hcz26_7, hcz26_8, hcz26_9, hcz26_10, hcz26_11, hcz26_12, hcz26_13, hcz26_14⟩ := Mine.cells15 BK101.out
              have hfz26_0 := blk_frozen BK101.out
              go_wp2
              go_ret
              exact ⟨by first | rfl | (simp [errW_none, errW_some] <;> rfl) | (simp [*, errW_none, errW_some] <;> rfl), by repeat (first | (with_reducible first | exact HB.out | apply below_alloc | apply pw_below_drewN | apply below_drew1 | refine below_set ?_ GE101.out) | exact HB.out)⟩
             ·rw [if_neg c25] at H
              have c25b0 : decide (0 ≤ a0_4) = false := decide_eq_false c25
              clear c25
              obtain rfl := Option.some.inj H
              obtain ⟨hcz27_0, hcz27_1, hcz27_2, hcz27_3, hcz27_4, hcz27_5, hcz27_6, hcz27_7, hcz27_8, hcz27_9, hcz27_10, hcz27_11, hcz27_12, hcz27_13, hcz27_14⟩ := Mine.cells15 BK101.out
              have hfz27_0 := blk_frozen BK101.out
              go_wp2
              go_ret
              exact ⟨by first | rfl | (simp [errW_none, errW_some] <;> rfl) | (simp [*, errW_none, errW_some] <;> rfl), by repeat (first | (with_reducible first | exact HB.out | apply below_alloc | apply pw_below_drewN | apply below_drew1 | refine below_set ?_ GE101.out) | exact HB.out)⟩
            ·rw [if_neg c24] at H
             have c24b0 : (a0_2 == 0) = false := beq_eq_false_iff_ne.mpr c24
             have c24b1 : (a0_2 != 0) = true := bne_iff_ne.mpr c24
             obtain rfl := Option.some.inj H
             obtain ⟨hcz28_0, hcz28_1, hcz28_2, hcz28_3, hcz28_4, hcz28_5, hcz28_6, hcz28_7, hcz28_8, hcz28_9, hcz28_10, hcz28_11, hcz28_12, hcz28_13, hcz28_14⟩ := Mine.cells15 BK101.out
             have hfz28_0 := blk_frozen BK101.out
             go_wp2
             go_ret
             exact ⟨by first | rfl | (simp [errW_none, errW_some] <;> rfl) | (simp [*, errW_none, errW_some] <;> rfl), by repeat (first | (with_reducible first | exact HB.out | apply below_alloc | apply pw_below_drewN | apply below_drew1 | refine below_set ?_ GE101.out) | exact HB.out)⟩
       ·replace c13 := Bool.eq_false_iff.mpr c13
        subst c13
        have H1 : (if a0_3 = 0 then (if a0_14.toList = ([] : List UInt8) then (if (!(a0_5 == 0) || (!(a0_6 == 0) || (!(a0_7 == 0) || ((!(a0_8 == 0) || (!(a0_9 == 0) || (!(a0_10 == 0) || (!(a0_11 == 0) || (!(a0_12 == 0) || (!(a0_13 == 0))))))))))) = true then (some false) else (if t102 = true then (if a0_4 ≥ 0 then (some (decide (a0_4 ≤ x6_8))) else (some false)) else (if a0_2 = 0 then (if a0_4 ≥ 0 then (some (decide (a0_4 ≤ x6_8))) else (some false)) else (some false)))) else (some false)) else (some false)) = some r := by rw [if_neg (show ¬ (false = true) by decide)] at H; exact H
        clear H
        have H := H1
        clear H1
        by_cases c29 : a0_3 = 0
        ·rw [if_pos c29] at H
         have c29b0 : (a0_3 == 0) = true := beq_iff_eq.mpr c29
         have c29b1 : (a0_3 != 0) = false := bne_eq_false_iff_eq.mpr c29
         clear c29
         by_cases c30 : a0_14.toList = ([] : List UInt8)
         ·rw [if_pos c30] at H
          have c30b0 : (a0_14.toList == ([] : List UInt8)) = true := beq_iff_eq.mpr c30
          have c30b1 : (a0_14.toList != ([] : List UInt8)) = false := bne_eq_false_iff_eq.mpr c30
          clear c30
          by_cases c31 : (!(a0_5 == 0) || (!(a0_6 == 0) || (!(a0_7 == 0) || ((!(a0_8 == 0) || (!(a0_9 == 0) || (!(a0_10 == 0) || (!(a0_11 == 0) || (!(a0_12 == 0) || (!(a0_13 == 0))))))))))) = true
          ·rw [if_pos c31] at H
           have c31b0 : (!(a0_5 == 0) || (!(a0_6 == 0) || (!(a0_7 == 0) || ((!(a0_8 == 0) || (!(a0_9 == 0) || (!(a0_10 == 0) || (!(a0_11 == 0) || (!(a0_12 == 0) || (!(a0_13 == 0))))))))))) = true := c31
           clear c31
           obtain rfl := Option.some.inj H
           obtain ⟨hcz32_0, hcz32_1, hcz32_2, hcz32_3, hcz32_4, hcz32_5, hcz32_6, hcz32_7, hcz32_8, hcz32_9, hcz32_10, hcz32_11, hcz32_12, hcz32_13, hcz32_14⟩ := Mine.cells15 BK101.out
           have hfz32_0 := blk_frozen BK101.out
           go_wp2
           go_ret
           exact ⟨by first | rfl | (simp [errW_none, errW_some] <;> rfl) | (simp [*, errW_none, errW_some] <;> rfl), by repeat (first | (with_reducible first | exact HB.out | apply below_alloc | apply pw_below_drewN | apply below_drew1 | refine below_set ?_ GE101.out) | exact HB.out)⟩
          ·rw [if_neg c31] at H
           have c31b0 : (!(a0_5 == 0) || (!(a0_6 == 0) || (!(a0_7 == 0) || ((!(a0_8 == 0) || (!(a0_9 == 0) || (!(a0_10 == 0) || (!(a0_11 == 0) || (!(a0_12 == 0) || (!(a0_13 == 0))))))))))) = false := by simpa using c31
           clear c31
           by_cases c33 : t102 = true
           ·subst c33
            have H1 : (if a0_4 ≥ 0 then (some (decide (a0_4 ≤ x6_8))) else (some false)) = some r := by rw [if_pos rfl] at H; exact H
            clear H
            have H := H1
            clear H1
            by_cases c34 : a0_4 ≥ 0
            ·rw [if_pos c34] at H
             have c34b0 : decide (0 ≤ a0_4) = true := decide_eq_true c34
             clear c34
             obtain rfl := Option.some.inj H
             obtain ⟨hcz35_0, hcz35_1, hcz35_2, hcz35_3, hcz35_4, hcz35_5, hcz35_6, hcz35_7, hcz35_8, hcz35_9, hcz35_10, hcz35_11, hcz35_12, hcz35_13, hcz35_14⟩ := Mine.cells15 BK101.out
             have hfz35_0 := blk_frozen BK101.out
             go_wp2
             go_ret
             exact ⟨by first | rfl | (simp [errW_none, errW_some] <;> rfl) | (simp [*, errW_none, errW_some] <;> rfl), by repeat (first | (with_reducible first | exact HB.out | apply below_alloc | apply pw_below_drewN | apply below_drew1 | refine below_set ?_ GE101.out) | exact HB.out)⟩
            ·rw [if_neg c34] at H
             have c34b0 : decide (0 ≤ a0_4) = false := decide_eq_false c34
             clear c34
             obtain rfl := Option.some.inj H
             obtain ⟨hcz36_0, hcz36_1, hcz36_2, hcz36_3, hcz36_4, hcz36_5, hcz36_6, hcz36_7, hcz36_8, hcz36_9, hcz36_10, hcz36_11, hcz36_12, hcz36_13, hcz36_14⟩ := Mine.cells15 BK101.out
             have hfz36_0 := blk_frozen BK101.out
             go_wp2
             go_ret
             exact ⟨by first | rfl | (simp [errW_none, errW_some] <;> rfl) | (simp [*, errW_none, errW_some] <;> rfl), by repeat (first | (with_reducible first | exact HB.out | apply below_alloc | apply pw_below_drewN | apply below_drew1 | refine below_set ?_ GE101.out) | exact HB.out)⟩
           ·replace c33 := Bool.eq_false_iff.mpr c33
            subst c33
            have H1 : (if a0_2 = 0 then (if a0_4 ≥ 0 then (some (decide (a0_4 ≤ x6_8))) else (some false)) else (some false)) = some r := by rw [if_neg (show ¬ (false = true) by decide)] at H; exact H
            clear H
            have H := H1
            clear H1
            by_cases c37 : a0_2 = 0
            ·rw [if_pos c37] at H
             have c37b0 : (a0_2 == 0) = true := beq_iff_eq.mpr c37
             have c37b1 : (a0_2 != 0) = false := bne_eq_false_iff_eq.mpr c37
             clear c37
             by_cases c38 : a0_4 ≥ 0
             ·rw [if_pos c38] at H
              have c38b0 : decide (0 ≤ a0_4) = true := decide_eq_true c38
              clear c38
              obtain rfl := Option.some.inj H
              obtain ⟨hcz39_0, hcz39_1, hcz39_2, hcz39_3, hcz39_4, hcz39_5, hcz39_6, hcz39_7, hcz39_8, hcz39_9, hcz39_10, hcz39_11, hcz39_12, hcz39_13, hcz39_14⟩ := Mine.cells15 BK101.out
              have hfz39_0 := blk_frozen BK101.out
              go_wp2
              go_ret
              exact ⟨by first | rfl | (simp [errW_none, errW_some] <;> rfl) | (simp [*, errW_none, errW_some] <;> rfl), by repeat (first | (with_reducible first | exact HB.out | apply below_alloc | apply pw_below_drewN | apply below_drew1 | refine below_set ?_ GE101.out) | exact HB.out)⟩
             ·rw [if_neg c38] at H
              have c38b0 : decide (0 ≤ a0_4) = false := decide_eq_false c38
              clear c38
              obtain rfl := Option.some.inj H
              obtain ⟨hcz40_0, hcz40_1, hcz40_2, hcz40_3, hcz40_4, hcz40_5, hcz40_6, hcz40_7, hcz40_8, hcz40_9, hcz40_10, hcz40_11, hcz40_12, hcz40_13, hcz40_14⟩ := Mine.cells15 BK101.out
              have hfz40_0 := blk_frozen BK101.out
              go_wp2
              go_ret
              exact ⟨by first | rfl | (simp [errW_none, errW_some] <;> rfl) | (simp [*, errW_none, errW_some] <;> rfl), by repeat (first | (with_reducible first | exact HB.out | apply below_alloc | apply pw_below_drewN | apply below_drew1 | refine below_set ?_ GE101.out) | exact HB.out)⟩
            ·rw [if_neg c37] at H
             have c37b0 : (a0_2 == 0) = false := beq_eq_false_iff_ne.mpr c37
             have c37b1 : (a0_2 != 0) = true := bne_iff_ne.mpr c37
             obtain rfl := Option.some.inj H
             obtain ⟨hcz41_0, hcz41_1, hcz41_2, hcz41_3, hcz41_4, hcz41_5, hcz41_6, hcz41_7, hcz41_8, hcz41_9, hcz41_10, hcz41_11, hcz41_12, hcz41_13, hcz41_14⟩ := Mine.cells15 BK101.out
             have hfz41_0 := blk_frozen BK101.out
             go_wp2
             go_ret
             exact ⟨by first | rfl | (simp [errW_none, errW_some] <;> rfl) | (simp [*, errW_none, errW_some] <;> rfl), by repeat (first | (with_reducible first | exact HB.out | apply below_alloc | apply pw_below_drewN | apply below_drew1 | refine below_set ?_ GE101.out) | exact HB.out)⟩
         ·rw [if_neg c30] at H
          have c30b0 : (a0_14.toList == ([] : List UInt8)) = false := beq_eq_false_iff_ne.mpr c30
          have c30b1 : (a0_14.toList != ([] : List UInt8)) = true := bne_iff_ne.mpr c30
          obtain rfl := Option.some.inj H
          obtain ⟨hcz42_0, hcz42_1, hcz42_2, hcz42_3, hcz42_4, hcz42_5, hcz42_6, hcz42_7, hcz42_8, hcz42_9, hcz42_10, hcz42_11, hcz42_12, hcz42_13, hcz42_14⟩ := Mine.cells15 BK101.out
          have hfz42_0 := blk_frozen BK101.out
          go_wp2
          go_ret
          exact ⟨by first | rfl | (simp [errW_none, errW_some] <;> rfl) | (simp [*, errW_none, errW_some] <;> rfl), by repeat (first | (with_reducible first | exact HB.out | apply below_alloc | apply pw_below_drewN | apply below_drew1 | refine below_set ?_ GE101.out) | exact HB.out)⟩
        ·rw [if_neg c29] at H
         have c29b0 : (a0_3 == 0) = false := beq_eq_false_iff_ne.mpr c29
         have c29b1 : (a0_3 != 0) = true := bne_iff_ne.mpr c29
         obtain rfl := Option.some.inj H
         obtain ⟨hcz43_0, hcz43_1, hcz43_2, hcz43_3, hcz43_4, hcz43_5, hcz43_6, hcz43_7, hcz43_8, hcz43_9, hcz43_10, hcz43_11, hcz43_12, hcz43_13, hcz43_14⟩ := Mine.cells15 BK101.out
         have hfz43_0 := blk_frozen BK101.out
         go_wp2
         go_ret
         exact ⟨by first | rfl | (simp [errW_none, errW_some] <;> rfl) | (simp [*, errW_none, errW_some] <;> rfl), by repeat (first | (with_reducible first | exact HB.out | apply below_alloc | apply pw_below_drewN | apply below_drew1 | refine below_set ?_ GE101.out) | exact HB.out)⟩
      ·replace c12 := Bool.eq_false_iff.mpr c12
       subst c12
       have H1 : (if t103 = true then (if a0_3 < 1 then (some false) else (if a0_3 > 4 then (some false) else (if (a0_14.size : Int) > 256 then (some false) else (if t102 = true then (if a0_4 ≥ 0 then (some (decide (a0_4 ≤ 0))) else (some false)) else (if a0_2 = 0 then (if a0_4 ≥ 0 then (some (decide (a0_4 ≤ 0))) else (some false)) else (some false)))))) else (if a0_3 = 0 then (if a0_14.toList = ([] : List UInt8) then (if (!(a0_5 == 0) || (!(a0_6 == 0) || (!(a0_7 == 0) || ((!(a0_8 == 0) || (!(a0_9 == 0) || (!(a0_10 == 0) || (!(a0_11 == 0) || (!(a0_12 == 0) || (!(a0_13 == 0))))))))))) = true then (some false) else (if t102 = true then (if a0_4 ≥ 0 then (some (decide (a0_4 ≤ 0))) else (some false)) else (if a0_2 = 0 then (if a0_4 ≥ 0 then (some (decide (a0_4 ≤ 0))) else (some false)) else (some false)))) else (some false)) else (some false))) = some r := by rw [if_neg (show ¬ (false = true) by decide)] at H; exact H
       clear H
       have H := H1
       clear H1
       by_cases c44 : t103 = true
       ·subst c44
        have H1 : (if a0_3 < 1 then (some false) else (if a0_3 > 4 then (some false) else (if (a0_14.size : Int) > 256 then (some false) else (if t102 = true then (if a0_4 ≥ 0 then (some (decide (a0_4 ≤ 0))) else (some false)) else (if a0_2 = 0 then (if a0_4 ≥ 0 then (some (decide (a0_4 ≤ 0))) else (some false)) else (some false)))))) = some r := by rw [if_pos rfl] at H; exact H
        clear H
        have H := H1
        clear H1
        by_cases c45 : a0_3 < 1
        ·rw [if_pos c45] at H
         have c45b0 : decide (a0_3 < 1) = true := decide_eq_true c45
         clear c45
         obtain rfl := Option.some.inj H
         obtain ⟨hcz46_0, hcz46_1, hcz46_2, hcz46_3, hcz46_4, hcz46_5, hcz46_6, hcz46_7, hcz46_8, hcz46_9, hcz46_10, hcz46_11, hcz46_12, hcz46_13, hcz46_14⟩ := Mine.cells15 BK101.out
         have hfz46_0 := blk_frozen BK101.out
         go_wp2
         go_ret
         exact ⟨by first | rfl | (simp [errW_none, errW_some] <;> rfl) | (simp [*, errW_none, errW_some] <;> rfl), by repeat (first | (with_reducible first | exact HB.out | apply below_alloc | apply pw_below_drewN | apply below_drew1 | refine below_set ?_ GE101.out) | exact HB.out)⟩
        ·rw [if_neg c45] at H
         have c45b0 : decide (a0_3 < 1) = false := decide_eq_false c45
         clear c45
         by_cases c47 : a0_3 > 4
         ·rw [if_pos c47] at H
          have c47b0 : decide (4 < a0_3) = true := decide_eq_true c47
          clear c47
          obtain rfl := Option.some.inj H
          obtain ⟨hcz48_0, hcz48_1, hcz48_2, hcz48_3, hcz48_4, hcz48_5, hcz48_6, hcz48_7, hcz48_8, hcz48_9, hcz48_10, hcz48_11, hcz48_12, hcz48_13, hcz48_14⟩ := Mine.cells15 BK101.out
          have hfz48_0 := blk_frozen BK101.out
          go_wp2
          go_ret
          exact ⟨by first | rfl | (simp [errW_none, errW_some] <;> rfl) | (simp [*, errW_none, errW_some] <;> rfl), by repeat (first | (with_reducible first | exact HB.out | apply below_alloc | apply pw_below_drewN | apply below_drew1 | refine below_set ?_ GE101.out) | exact HB.out)⟩
         ·rw [if_neg c47] at H
          have c47b0 : decide (4 < a0_3) = false := decide_eq_false c47
          clear c47
          by_cases c49 : (a0_14.size : Int) > 256
          ·rw [if_pos c49] at H
           have c49b0 : decide (256 < (a0_14.size : Int)) = true := decide_eq_true c49
           have c49b1 : decide (256 < a0_14.size) = true := decide_eq_true (by omega)
           clear c49
           obtain rfl := Option.some.inj H
           obtain ⟨hcz50_0, hcz50_1, hcz50_2, hcz50_3, hcz50_4, hcz50_5, hcz50_6, hcz50_7, hcz50_8, hcz50_9, hcz50_10, hcz50_11, hcz50_12, hcz50_13, hcz50_14⟩ := Mine.cells15 BK101.out
           have hfz50_0 := blk_frozen BK101.out
           go_wp2
           go_ret
           exact ⟨by first | rfl | (simp [errW_none, errW_some] <;> rfl) | (simp [*, errW_none, errW_some] <;> rfl), by repeat (first | (with_reducible first | exact HB.out | apply below_alloc | apply pw_below_drewN | apply below_drew1 | refine below_set ?_ GE101.out) | exact HB.out)⟩
          ·rw [if_neg c49] at H
           have c49b0 : decide (256 < (a0_14.size : Int)) = false := decide_eq_false c49
           have c49b1 : decide (256 < a0_14.size) = false := decide_eq_false (by omega)
           clear c49
           by_cases c51 : t102 = true
           ·subst c51
            have H1 : (if a0_4 ≥ 0 then (some (decide (a0_4 ≤ 0))) else (some false)) = some r := by rw [if_pos rfl] at H; exact H
            clear H
            have H := H1
            clear H1
            by_cases c52 : a0_4 ≥ 0
            ·rw [if_pos c52] at H
             have c52b0 : decide (0 ≤ a0_4) = true := decide_eq_true c52
             clear c52
             obtain rfl := Option.some.inj H
             obtain ⟨hcz53_0, hcz53_1, hcz53_2, hcz53_3, hcz53_4, hcz53_5, hcz53_6, hcz53_7, hcz53_8, hcz53_9, hcz53_10, hcz53_11, hcz53_12, hcz53_13, hcz53_14⟩ := Mine.cells15 BK101.out
             have hfz53_0 := blk_frozen BK101.out
             go_wp2
             go_ret
             exact ⟨by first | rfl | (simp [errW_none, errW_some] <;> rfl) | (simp [*, errW_none, errW_some] <;> rfl), by repeat (first | (with_reducible first | exact HB.out | apply below_alloc | apply pw_below_drewN | apply below_drew1 | refine below_set ?_ GE101.out) | exact HB.out)⟩
            ·rw [if_neg c52] at H
             have c52b0 : decide (0 ≤ a0_4) = false := decide_eq_false c52
             clear c52
             obtain rfl := Option.some.inj H
             obtain ⟨hcz54_0, hcz54_1, hcz54_2, hcz54_3, hcz54_4, hcz54_5, hcz54_6, hcz54_7, hcz54_8, hcz54_9, hcz54_10, hcz54_11, hcz54_12, hcz54_13, hcz54_14⟩ := Mine.cells15 BK101.out
             have hfz54_0 := blk_frozen BK101.out
             go_wp2
             go_ret
             exact ⟨by first | rfl | (simp [errW_none, errW_some] <;> rfl) | (simp [*, errW_none, errW_some] <;> rfl), by repeat (first | (with_reducible first | exact HB.out | apply below_alloc | apply pw_below_drewN | apply below_drew1 | refine below_set ?_ GE101.out) | exact HB.out)⟩
           ·replace c51 := Bool.eq_false_iff.mpr c51
            subst c51
            have H1 : (if a0_2 = 0 then (if a0_4 ≥ 0 then (some (decide (a0_4 ≤ 0))) else (some false)) else (some false)) = some r := by rw [if_neg (show ¬ (false = true) by decide)] at H; exact H
            clear H
            have H := H1
            clear H1
            by_cases c55 : a0_2 = 0
            ·rw [if_pos c55] at H
             have c55b0 : (a0_2 == 0) = true := beq_iff_eq.mpr c55
             have c55b1 : (a0_2 != 0) = false := bne_eq_false_iff_eq.mpr c55
             clear c55
             by_cases c56 : a0_4 ≥ 0
             ·rw [if_pos c56] at H
              have c56b0 : decide (0 ≤ a0_4) = true := decide_eq_true c56
              clear c56
              obtain rfl := Option.some.inj H
              obtain ⟨hcz57_0, hcz57_1, hcz57_2, hcz57_3, hcz57_4, hcz57_5, hcz57_6, hcz57_7, hcz57_8, hcz57_9, hcz57_10, hcz57_11, hcz57_12, hcz57_13, hcz57_14⟩ := Mine.cells15 BK101.out
              have hfz57_0 := blk_frozen BK101.out
              go_wp2
              go_ret
              exact ⟨by first | rfl | (simp [errW_none, errW_some] <;> rfl) | (simp [*, errW_none, errW_some] <;> rfl), by repeat (first | (with_reducible first | exact HB.out | apply below_alloc | apply pw_below_drewN | apply below_drew1 | refine below_set ?_ GE101.out) | exact HB.out)⟩
             ·rw [if_neg c56] at H
              have c56b0 : decide (0 ≤ a0_4) = false := decide_eq_false c56
              clear c56
              obtain rfl := Option.some.inj H
              obtain ⟨hcz58_0, hcz58_1, hcz58_2, hcz58_3, hcz58_4, hcz58_5, hcz58_6, hcz58_7, hcz58_8, hcz58_9, hcz58_10, hcz58_11, hcz58_12, hcz58_13, hcz58_14⟩ := Mine.cells15 BK101.out
              have hfz58_0 := blk_frozen BK101.out
              go_wp2
              go_ret
              exact ⟨by first | rfl | (simp [errW_none, errW_some] <;> rfl) | (simp [*, errW_none, errW_some] <;> rfl), by repeat (first | (with_reducible first | exact HB.out | apply below_alloc | apply pw_below_drewN | apply below_drew1 | refine below_set ?_ GE101.out) | exact HB.out)⟩
            ·rw [if_neg c55] at H
             have c55b0 : (a0_2 == 0) = false := beq_eq_false_iff_ne.mpr c55
             have c55b1 : (a0_2 != 0) = true := bne_iff_ne.mpr c55
             obtain rfl := Option.some.inj H
             obtain ⟨hcz59_0, hcz59_1, hcz59_2, hcz59_3, hcz59_4, hcz59_5, hcz59_6, hcz59_7, hcz59_8, hcz59_9, hcz59_10, hcz59_11, hcz59_12, hcz59_13, hcz59_14⟩ := Mine.cells15 BK101.out
             have hfz59_0 := blk_frozen BK101.out
             go_wp2
             go_ret
             exact ⟨by first | rfl | (simp [errW_none, errW_some] <;> rfl) | (simp [*, errW_none, errW_some] <;> rfl), by repeat (first | (with_reducible first | exact HB.out | apply below_alloc | apply pw_below_drewN | apply below_drew1 | refine below_set ?_ GE101.out) | exact HB.out)⟩
       ·replace c44 := Bool.eq_false_iff.mpr c44
        subst c44
        have H1 : (if a0_3 = 0 then (if a0_14.toList = ([] : List UInt8) then (if (!(a0_5 == 0) || (!(a0_6 == 0) || (!(a0_7 == 0) || ((!(a0_8 == 0) || (!(a0_9 == 0) || (!(a0_10 == 0) || (!(a0_11 == 0) || (!(a0_12 == 0) || (!(a0_13 == 0))))))))))) = true then (some false) else (if t102 = true then (if a0_4 ≥ 0 then (some (decide (a0_4 ≤ 0))) else (some false)) else (if a0_2 = 0 then (if a0_4 ≥ 0 then (some (decide (a0_4 ≤ 0))) else (some false)) else (some false)))) else (some false)) else (some false)) = some r := by rw [if_neg (show ¬ (false = true) by decide)] at H; exact H
        clear H
        have H := H1
        clear H1
        by_cases c60 : a0_3 = 0
        ·rw [if_pos c60] at H
         have c60b0 : (a0_3 == 0) = true := beq_iff_eq.mpr c60
         have c60b1 : (a0_3 != 0) = false := bne_eq_false_iff_eq.mpr c60
         clear c60
         by_cases c61 : a0_14.toList = ([] : List UInt8)
         ·rw [if_pos c61] at H
          have c61b0 : (a0_14.toList == ([] : List UInt8)) = true := beq_iff_eq.mpr c61
          have c61b1 : (a0_14.toList != ([] : List UInt8)) = false := bne_eq_false_iff_eq.mpr c61
          clear c61
          by_cases c62 : (!(a0_5 == 0) || (!(a0_6 == 0) || (!(a0_7 == 0) || ((!(a0_8 == 0) || (!(a0_9 == 0) || (!(a0_10 == 0) || (!(a0_11 == 0) || (!(a0_12 == 0) || (!(a0_13 == 0))))))))))) = true
          ·rw [if_pos c62] at H
           have c62b0 : (!(a0_5 == 0) || (!(a0_6 == 0) || (!(a0_7 == 0) || ((!(a0_8 == 0) || (!(a0_9 == 0) || (!(a0_10 == 0) || (!(a0_11 == 0) || (!(a0_12 == 0) || (!(a0_13 == 0))))))))))) = true := c62
           clear c62
           obtain rfl := Option.some.inj H
           obtain ⟨hcz63_0, hcz63_1, hcz63_2, hcz63_3, hcz63_4, hcz63_5, hcz63_6, hcz63_7, hcz63_8, hcz63_9, hcz63_10, hcz63_11, hcz63_12, hcz63_13, hcz63_14⟩ := Mine.cells15 BK101.out
           have hfz63_0 := blk_frozen BK101.out
           go_wp2
           go_ret
           exact ⟨by first | rfl | (simp [errW_none, errW_some] <;> rfl) | (simp [*, errW_none, errW_some] <;> rfl), by repeat (first | (with_reducible first | exact HB.out | apply below_alloc | apply pw_below_drewN | apply below_drew1 | refine below_set ?_ GE101.out) | exact HB.out)⟩
          ·rw [if_neg c62] at H
           have c62b0 : (!(a0_5 == 0) || (!(a0_6 == 0) || (!(a0_7 == 0) || ((!(a0_8 == 0) || (!(a0_9 == 0) || (!(a0_10 == 0) || (!(a0_11 == 0) || (!(a0_12 == 0) || (!(a0_13 == 0))))))))))) = false := by simpa using c62
           clear c62
           by_cases c64 : t102 = true
           ·subst c64
            have H1 : (if a0_4 ≥ 0 then (some (decide (a0_4 ≤ 0))) else (some false)) = some r := by rw [if_pos rfl] at H; exact H
            clear H
            have H := H1
            clear H1
            by_cases c65 : a0_4 ≥ 0
            ·rw [if_pos c65] at H
             have c65b0 : decide (0 ≤ a0_4) = true := decide_eq_true c65
             clear c65
             obtain rfl := Option.some.inj H
             obtain ⟨hcz66_0, hcz66_1, hcz66_2, hcz66_3, hcz66_4, hcz66_5, hcz66_6, hcz66_7, hcz66_8, hcz66_9, hcz66_10, hcz66_11, hcz66_12, hcz66_13, hcz66_14⟩ := Mine.cells15 BK101.out
             have hfz66_0 := blk_frozen BK101.out
             go_wp2
             go_ret
             exact ⟨by first | rfl | (simp [errW_none, errW_some] <;> rfl) | (simp [*, errW_none, errW_some] <;> rfl), by repeat (first | (with_reducible first | exact HB.out | apply below_alloc | apply pw_below_drewN | apply below_drew1 | refine below_set ?_ GE101.out) | exact HB.out)⟩
            ·rw [if_neg c65] at H
             have c65b0 : decide (0 ≤ a0_4) = false := decide_eq_false c65
             clear c65
             obtain rfl := Option.some.inj H
             obtain ⟨hcz67_0, hcz67_1, hcz67_2, hcz67_3, hcz67_4, hcz67_5, hcz67_6, hcz67_7, hcz67_8, hcz67_9, hcz67_10, hcz67_11, hcz67_12, hcz67_13, hcz67_14⟩ := Mine.cells15 BK101.out
             have hfz67_0 := blk_frozen BK101.out
             go_wp2
             go_ret
             exact ⟨by first | rfl | (simp [errW_none, errW_some] <;> rfl) | (simp [*, errW_none, errW_some] <;> rfl), by repeat (first | (with_reducible first | exact HB.out | apply below_alloc | apply pw_below_drewN | apply below_drew1 | refine below_set ?_ GE101.out) | exact HB.out)⟩
           ·replace c64 := Bool.eq_false_iff.mpr c64
            subst c64
            have H1 : (if a0_2 = 0 then (if a0_4 ≥ 0 then (some (decide (a0_4 ≤ 0))) else (some false)) else (some false)) = some r := by rw [if_neg (show ¬ (false = true) by decide)] at H; exact H
            clear H
            have H := H1
            clear H1
            by_cases c68 : a0_2 = 0
            ·rw [if_pos c68] at H
             have c68b0 : (a0_2 == 0) = true := beq_iff_eq.mpr c68
             have c68b1 : (a0_2 != 0) = false := bne_eq_false_iff_eq.mpr c68
             clear c68
             by_cases c69 : a0_4 ≥ 0
             ·rw [if_pos c69] at H
              have c69b0 : decide (0 ≤ a0_4) = true := decide_eq_true c69
              clear c69
              obtain rfl := Option.some.inj H
              obtain ⟨hcz70_0, hcz70_1, hcz70_2, hcz70_3, hcz70_4, hcz70_5, hcz70_6, hcz70_7, hcz70_8, hcz70_9, hcz70_10, hcz70_11, hcz70_12, hcz70_13, hcz70_14⟩ := Mine.cells15 BK101.out
              have hfz70_0 := blk_frozen BK101.out
              go_wp2
              go_ret
              exact ⟨by first | rfl | (simp [errW_none, errW_some] <;> rfl) | (simp [*, errW_none, errW_some] <;> rfl), by repeat (first | (with_reducible first | exact HB.out | apply below_alloc | apply pw_below_drewN | apply below_drew1 | refine below_set ?_ GE101.out) | exact HB.out)⟩
             ·rw [if_neg c69] at H
              have c69b0 : decide (0 ≤ a0_4) = false := decide_eq_false c69
              clear c69
              obtain rfl := Option.some.inj H
              obtain ⟨hcz71_0, hcz71_1, hcz71_2, hcz71_3, hcz71_4, hcz71_5, hcz71_6, hcz71_7, hcz71_8, hcz71_9, hcz71_10, hcz71_11, hcz71_12, hcz71_13, hcz71_14⟩ := Mine.cells15 BK101.out
              have hfz71_0 := blk_frozen BK101.out
              go_wp2
              go_ret
              exact ⟨by first | rfl | (simp [errW_none, errW_some] <;> rfl) | (simp [*, errW_none, errW_some] <;> rfl), by repeat (first | (with_reducible first | exact HB.out | apply below_alloc | apply pw_below_drewN | apply below_drew1 | refine below_set ?_ GE101.out) | exact HB.out)⟩
            ·rw [if_neg c68] at H
             have c68b0 : (a0_2 == 0) = false := beq_eq_false_iff_ne.mpr c68
             have c68b1 : (a0_2 != 0) = true := bne_iff_ne.mpr c68
             obtain rfl := Option.some.inj H
             obtain ⟨hcz72_0, hcz72_1, hcz72_2, hcz72_3, hcz72_4, hcz72_5, hcz72_6, hcz72_7, hcz72_8, hcz72_9, hcz72_10, hcz72_11, hcz72_12, hcz72_13, hcz72_14⟩ := Mine.cells15 BK101.out
             have hfz72_0 := blk_frozen BK101.out
             go_wp2
             go_ret
             exact ⟨by first | rfl | (simp [errW_none, errW_some] <;> rfl) | (simp [*, errW_none, errW_some] <;> rfl), by repeat (first | (with_reducible first | exact HB.out | apply below_alloc | apply pw_below_drewN | apply below_drew1 | refine below_set ?_ GE101.out) | exact HB.out)⟩
         ·rw [if_neg c61] at H
          have c61b0 : (a0_14.toList == ([] : List UInt8)) = false := beq_eq_false_iff_ne.mpr c61
          have c61b1 : (a0_14.toList != ([] : List UInt8)) = true := bne_iff_ne.mpr c61
          obtain rfl := Option.some.inj H
          obtain ⟨hcz73_0, hcz73_1, hcz73_2, hcz73_3, hcz73_4, hcz73_5, hcz73_6, hcz73_7, hcz73_8, hcz73_9, hcz73_10, hcz73_11, hcz73_12, hcz73_13, hcz73_14⟩ := Mine.cells15 BK101.out
          have hfz73_0 := blk_frozen BK101.out
          go_wp2
          go_ret
          exact ⟨by first | rfl | (simp [errW_none, errW_some] <;> rfl) | (simp [*, errW_none, errW_some] <;> rfl), by repeat (first | (with_reducible first | exact HB.out | apply below_alloc | apply pw_below_drewN | apply below_drew1 | refine below_set ?_ GE101.out) | exact HB.out)⟩
        ·rw [if_neg c60] at H
         have c60b0 : (a0_3 == 0) = false := beq_eq_false_iff_ne.mpr c60
         have c60b1 : (a0_3 != 0) = true := bne_iff_ne.mpr c60
         obtain rfl := Option.some.inj H
         obtain ⟨hcz74_0, hcz74_1, hcz74_2, hcz74_3, hcz74_4, hcz74_5, hcz74_6, hcz74_7, hcz74_8, hcz74_9, hcz74_10, hcz74_11, hcz74_12, hcz74_13, hcz74_14⟩ := Mine.cells15 BK101.out
         have hfz74_0 := blk_frozen BK101.out
         go_wp2
         go_ret
         exact ⟨by first | rfl | (simp [errW_none, errW_some] <;> rfl) | (simp [*, errW_none, errW_some] <;> rfl), by repeat (first | (with_reducible first | exact HB.out | apply below_alloc | apply pw_below_drewN | apply below_drew1 | refine below_set ?_ GE101.out) | exact HB.out)⟩
end Go.Proofs.Ytadglbmghldnfaa.M
