-- Laid by a program (wip/tools/myprint.py) out of the loaded program's own print: for each Go function a Lean function and the proof of its contract.
import Derived.Test.YtadglbmghldnfaaDMx0
import Derived.Test.YtadglbmghldnfaaDMx1
namespace Go.Proofs.Ytadglbmghldnfaa.M
open Go.RowKit Go.Proofs.YtadglbmghldnfaaW.PrintWords Go.Proofs.YtadglbmghldnfaaW.PrintLast Go.Proofs.YtadglbmghldnfaaW.PrintMore
attribute [local go_sem] max2_int min2_int max_two min_two max_three min_three max_four min_four   -- for this text's walks alone
set_option linter.unusedVariables false
set_option linter.unusedSimpArgs false
attribute [local go_sem high] eqA26
def msg_bears.f (a0 : Int) : Option (Bool × Bool × Bool) := if a0 = 4 then (some (decide (a0 > 1), (a0 == 2), true)) else (if a0 = 5 then (some (decide (a0 > 1), (a0 == 2), true)) else (some (decide (a0 > 1), (a0 == 2), (a0 == 7))))
set_option maxHeartbeats 8000000 in
set_option maxRecDepth 100000 in
theorem msg_bears.calls (a0 : Int) (r1 : Bool) (r2 : Bool) (r3 : Bool) (w : World) (h : msg_bears.f a0 = some (r1, r2, r3)) :
  Calls Try.prog 15 #[.int .i64 a0] w fun e w' => e = .returned (.tuple #[.bool r1, .bool r2, .bool r3]) ∧ Drawn0 w w' := by
 have H : (if a0 = 4 then (some (decide (a0 > 1), (a0 == 2), true)) else (if a0 = 5 then (some (decide (a0 > 1), (a0 == 2), true)) else (some (decide (a0 > 1), (a0 == 2), (a0 == 7))))) = some (r1, r2, r3) := h
 clear h
 by_cases c2 : a0 = 4
 ·rw [if_pos c2] at H
  have c2b0 : (a0 == 4) = true := beq_iff_eq.mpr c2
  have c2b1 : (a0 != 4) = false := bne_eq_false_iff_eq.mpr c2
  clear c2
  simp only [Option.some.injEq, Prod.mk.injEq] at H
  obtain ⟨rfl, rfl, rfl⟩ := H
  go_enter Try.func15, Try.ntmps15
  go_wp2
  go_ret3
  exact ⟨by first | rfl | (simp; done) | (simp [*]; done), by repeat (first | exact Drawn0.refl _ | apply Drawn0.step)⟩
 ·rw [if_neg c2] at H
  have c2b0 : (a0 == 4) = false := beq_eq_false_iff_ne.mpr c2
  have c2b1 : (a0 != 4) = true := bne_iff_ne.mpr c2
  by_cases c3 : a0 = 5
  ·rw [if_pos c3] at H
   have c3b0 : (a0 == 5) = true := beq_iff_eq.mpr c3
   have c3b1 : (a0 != 5) = false := bne_eq_false_iff_eq.mpr c3
   clear c3
   simp only [Option.some.injEq, Prod.mk.injEq] at H
   obtain ⟨rfl, rfl, rfl⟩ := H
   go_enter Try.func15, Try.ntmps15
   go_wp2
   go_ret3
   exact ⟨by first | rfl | (simp; done) | (simp [*]; done), by repeat (first | exact Drawn0.refl _ | apply Drawn0.step)⟩
  ·rw [if_neg c3] at H
   have c3b0 : (a0 == 5) = false := beq_eq_false_iff_ne.mpr c3
   have c3b1 : (a0 != 5) = true := bne_iff_ne.mpr c3
   simp only [Option.some.injEq, Prod.mk.injEq] at H
   obtain ⟨rfl, rfl, rfl⟩ := H
   go_enter Try.func15, Try.ntmps15
   go_wp2
   go_ret3
   exact ⟨by first | rfl | (simp; done) | (simp [*]; done), by repeat (first | exact Drawn0.refl _ | apply Drawn0.step)⟩
mutual
def msg_Right.j0 : Nat → Bool → Int → Int → Int → Int → Int → Int → Int → Int → Int → Int → Int → Int → Int → Int → ByteArray → Option (Bool)
 | 0, _, _, _, _, _, _, _, _, _, _, _, _, _, _, _, _ => none
 | k + 1, x14, Z0, Z1, Z2, Z3, Z4, Z5, Z6, Z7, Z8, Z9, Za, Zb, Zc, Zd, Ze => if x14 = true then (some false) else ((msg_bears.f Z0).bind fun bt102 => (if Z0 = 7 then (msg_Right.j1 k bt102.1 bt102.2.1 bt102.2.2 1 Z0 Z1 Z2 Z3 Z4 Z5 Z6 Z7 Z8 Z9 Za Zb Zc Zd Ze) else (msg_Right.j1 k bt102.1 bt102.2.1 bt102.2.2 65535 Z0 Z1 Z2 Z3 Z4 Z5 Z6 Z7 Z8 Z9 Za Zb Zc Zd Ze)))
def msg_Right.j1 : Nat → Bool → Bool → Bool → Int → Int → Int → Int → Int → Int → Int → Int → Int → Int → Int → Int → Int → Int → Int → ByteArray → Option (Bool)
 | 0, _, _, _, _, _, _, _, _, _, _, _, _, _, _, _, _, _, _, _ => none
 | k + 1, x3, x4, x5, x6, Z0, Z1, Z2, Z3, Z4, Z5, Z6, Z7, Z8, Z9, Za, Zb, Zc, Zd, Ze => if x5 = true then (if x4 = true then (if Z3 < 1 then (some false) else (if Z3 > 4 then (some false) else (if (Ze.size : Int) > 256 then (some false) else (if x3 = true then (if Z4 ≥ 0 then (some (decide (Z4 ≤ x6))) else (some false)) else (if Z2 = 0 then (if Z4 ≥ 0 then (some (decide (Z4 ≤ x6))) else (some false)) else (some false)))))) else (if Z3 = 0 then (if Ze.toList = ([] : List UInt8) then (if (!(Z5 == 0) || (!(Z6 == 0) || (!(Z7 == 0) || ((!(Z8 == 0) || (!(Z9 == 0) || (!(Za == 0) || (!(Zb == 0) || (!(Zc == 0) || (!(Zd == 0))))))))))) = true then (some false) else (if x3 = true then (if Z4 ≥ 0 then (some (decide (Z4 ≤ x6))) else (some false)) else (if Z2 = 0 then (if Z4 ≥ 0 then (some (decide (Z4 ≤ x6))) else (some false)) else (some false)))) else (some false)) else (some false))) else (if x4 = true then (if Z3 < 1 then (some false) else (if Z3 > 4 then (some false) else (if (Ze.size : Int) > 256 then (some false) else (if x3 = true then (if Z4 ≥ 0 then (some (decide (Z4 ≤ 0))) else (some false)) else (if Z2 = 0 then (if Z4 ≥ 0 then (some (decide (Z4 ≤ 0))) else (some false)) else (some false)))))) else (if Z3 = 0 then (if Ze.toList = ([] : List UInt8) then (if (!(Z5 == 0) || (!(Z6 == 0) || (!(Z7 == 0) || ((!(Z8 == 0) || (!(Z9 == 0) || (!(Za == 0) || (!(Zb == 0) || (!(Zc == 0) || (!(Zd == 0))))))))))) = true then (some false) else (if x3 = true then (if Z4 ≥ 0 then (some (decide (Z4 ≤ 0))) else (some false)) else (if Z2 = 0 then (if Z4 ≥ 0 then (some (decide (Z4 ≤ 0))) else (some false)) else (some false)))) else (some false)) else (some false)))
end
def msg_Right.f (k : Nat) (a0_0 : Int) (a0_1 : Int) (a0_2 : Int) (a0_3 : Int) (a0_4 : Int) (a0_5 : Int) (a0_6 : Int) (a0_7 : Int) (a0_8 : Int) (a0_9 : Int) (a0_10 : Int) (a0_11 : Int) (a0_12 : Int) (a0_13 : Int) (a0_14 : ByteArray) : Option (Bool) := if a0_0 < 1 then (msg_Right.j0 k true a0_0 a0_1 a0_2 a0_3 a0_4 a0_5 a0_6 a0_7 a0_8 a0_9 a0_10 a0_11 a0_12 a0_13 a0_14) else (msg_Right.j0 k (decide (a0_0 > 7)) a0_0 a0_1 a0_2 a0_3 a0_4 a0_5 a0_6 a0_7 a0_8 a0_9 a0_10 a0_11 a0_12 a0_13 a0_14)
set_option maxHeartbeats 8000000 in
set_option maxRecDepth 100000 in
theorem msg_Right.calls (k : Nat) (a0_0 : Int) (a0_1 : Int) (a0_2 : Int) (a0_3 : Int) (a0_4 : Int) (a0_5 : Int) (a0_6 : Int) (a0_7 : Int) (a0_8 : Int) (a0_9 : Int) (a0_10 : Int) (a0_11 : Int) (a0_12 : Int) (a0_13 : Int) (a0_14 : ByteArray) (r : Bool) (w : World) (h : msg_Right.f k a0_0 a0_1 a0_2 a0_3 a0_4 a0_5 a0_6 a0_7 a0_8 a0_9 a0_10 a0_11 a0_12 a0_13 a0_14 = some r) :
  Calls Try.prog 11 #[.agg #[.int .i64 a0_0, .int .u64 a0_1, .int .u64 a0_2, .int .i64 a0_3, .int .i64 a0_4, .int .u32 a0_5, .int .u32 a0_6, .int .u64 a0_7, .int .u64 a0_8, .int .u64 a0_9, .int .u64 a0_10, .int .u64 a0_11, .int .u64 a0_12, .int .u64 a0_13, .string a0_14]] w fun e w' => e = .returned (.bool r) ∧ Below w.heap.size w w' := by
 have hu28 := Try.underlying28
 have hu26 := Try.underlying26
 have HB := Aside0.mk (Below.refl w.heap.size w)
 have H : (if a0_0 < 1 then (msg_Right.j0 k true a0_0 a0_1 a0_2 a0_3 a0_4 a0_5 a0_6 a0_7 a0_8 a0_9 a0_10 a0_11 a0_12 a0_13 a0_14) else (msg_Right.j0 k (decide (a0_0 > 7)) a0_0 a0_1 a0_2 a0_3 a0_4 a0_5 a0_6 a0_7 a0_8 a0_9 a0_10 a0_11 a0_12 a0_13 a0_14)) = some r := h
 clear h
 have HC2 := Aside0.mk H
 clear H
 go_enter Try.func11, Try.ntmps11
 go_upto_region 1 with (first | ((with_reducible refine gate_dst (N := 1) rfl ?_); (try (refine gate_guard (by rfl) ?_; dsimp only)); refine box_event ?hg (N := 1) ?hd (cs := #[.int .i64 a0_0, .int .u64 a0_1, .int .u64 a0_2, .int .i64 a0_3, .int .i64 a0_4, .int .u32 a0_5, .int .u32 a0_6, .int .u64 a0_7, .int .u64 a0_8, .int .u64 a0_9, .int .u64 a0_10, .int .u64 a0_11, .int .u64 a0_12, .int .u64 a0_13, .string a0_14]) (t := 28) ?hr ?_; (case hd => rfl); (case hg => rfl); (case hr => first | (go_simp; done) | (go_simp; rfl)); intro gb101 hg w3 hbox hb; have n0_ := Aside0.mk (below_step (by repeat (first | (with_reducible first | exact HB.out | apply below_alloc | apply pw_below_drewN | apply below_drew1) | exact HB.out)) hb); have n1_ := Aside0.mk (hbox); have n2_ := Aside0.mk ((by rw [hg]; exact (below_size (by repeat (first | (with_reducible first | exact HB.out | apply below_alloc | apply pw_below_drewN | apply below_drew1) | exact HB.out))) : w.heap.size ≤ gb101)); have n3_ := Aside0.mk ((by rw [hg]; exact (below_size (by repeat (first | (with_reducible first | exact HB.out | apply below_alloc | apply pw_below_drewN | apply below_drew1) | exact HB.out))) : w.heap.size ≤ gb101)); clear HB; have HB := n0_; have BK101 := n1_; have GW101 := n2_; have GE101 := n3_; clear n0_ n1_ n2_ n3_; clear hb hbox hg))
 (try simp only [Act.put, List.setIfInBounds_toArray, List.set_cons_zero, List.set_cons_succ])
 go_cut [14] (fun v14 wc => ∃ (kq : Nat) (x14_1 : Bool), v14 = .bool x14_1 ∧ Aside0 (msg_Right.j0 kq x14_1 a0_0 a0_1 a0_2 a0_3 a0_4 a0_5 a0_6 a0_7 a0_8 a0_9 a0_10 a0_11 a0_12 a0_13 a0_14 = some r) ∧ Aside0 (kq ≤ k) ∧ Aside0 (wc.heap[gb101]? = some (.cells #[.int .i64 a0_0, .int .u64 a0_1, .int .u64 a0_2, .int .i64 a0_3, .int .i64 a0_4, .int .u32 a0_5, .int .u32 a0_6, .int .u64 a0_7, .int .u64 a0_8, .int .u64 a0_9, .int .u64 a0_10, .int .u64 a0_11, .int .u64 a0_12, .int .u64 a0_13, .string a0_14] 28 (0, 0))) ∧ Aside0 (Below w.heap.size w wc))
 case first =>
  have H := HC2.out
  clear HC2
  by_cases c4 : a0_0 < 1
  ·rw [if_pos c4] at H
   have c4b0 : decide (a0_0 < 1) = true := decide_eq_true c4
   clear c4
   (first | rw [c4b0] | (simp only [i64_w, i32_w]; rw [c4b0]) | skip)
   have H' := Aside0.mk H
   clear H
   have hcz5 := Mine.cells15 BK101.out
   have hfz5_0 := blk_frozen BK101.out
   go_wp2
   go_meet
   case rel => exact ⟨_, (true), (by first | rfl | (simp; done) | (simp [*]; done)), H', ⟨by first | omega | exact Nat.le_refl _⟩, ⟨by (with_reducible repeat (first | refine blk_drewN ?_ _ | refine blk_drew ?_ | refine blk_alloc ?_ _)); exact BK101.out⟩, ⟨by repeat (first | (with_reducible first | exact HB.out | apply below_alloc | apply pw_below_drewN | apply below_drew1 | refine below_set ?_ GE101.out) | exact HB.out)⟩⟩
  ·rw [if_neg c4] at H
   have c4b0 : decide (a0_0 < 1) = false := decide_eq_false c4
   clear c4
   (first | rw [c4b0] | (simp only [i64_w, i32_w]; rw [c4b0]) | skip)
   have H' := Aside0.mk H
   clear H
   have hcz6 := Mine.cells15 BK101.out
   have hfz6_0 := blk_frozen BK101.out
   go_wp2
   go_meet
   case rel => exact ⟨_, (decide (a0_0 > 7)), (by first | rfl | (simp; done) | (simp [*]; done)), H', ⟨by first | omega | exact Nat.le_refl _⟩, ⟨by (with_reducible repeat (first | refine blk_drewN ?_ _ | refine blk_drew ?_ | refine blk_alloc ?_ _)); exact BK101.out⟩, ⟨by repeat (first | (with_reducible first | exact HB.out | apply below_alloc | apply pw_below_drewN | apply below_drew1 | refine below_set ?_ GE101.out) | exact HB.out)⟩⟩
 case rest =>
  clear HC2
  try clear c1
  try clear p2
  try clear c4
  try clear c4b0
  try clear hcz5
  try clear hcz6
  try clear hfz5_0
  try clear hfz6_0
  obtain ⟨kq, x14_1, rfl, HA, HJ1, BK101, HB⟩ := hcut
  cases kq with
  | zero => exact absurd HA.out (by simp [msg_Right.j0])
  | succ kj1 =>
   have H := HA.out
   clear HA
   simp only [msg_Right.j0] at H
   by_cases c7 : x14_1 = true
   ·subst c7
    have H1 : (some false) = some r := by rw [if_pos rfl] at H; exact H
    clear H
    have H := H1
    clear H1
    obtain rfl := Option.some.inj H
    go_wp2
    go_ret
    exact ⟨by first | rfl | (simp [errW_none, errW_some] <;> rfl) | (simp [*, errW_none, errW_some] <;> rfl), by repeat (first | (with_reducible first | exact HB.out | apply below_alloc | apply pw_below_drewN | apply below_drew1 | refine below_set ?_ GE101.out) | exact HB.out)⟩
   ·replace c7 := Bool.eq_false_iff.mpr c7
    subst c7
    have H1 : ((msg_bears.f a0_0).bind fun bt102 => (if a0_0 = 7 then (msg_Right.j1 kj1 bt102.1 bt102.2.1 bt102.2.2 1 a0_0 a0_1 a0_2 a0_3 a0_4 a0_5 a0_6 a0_7 a0_8 a0_9 a0_10 a0_11 a0_12 a0_13 a0_14) else (msg_Right.j1 kj1 bt102.1 bt102.2.1 bt102.2.2 65535 a0_0 a0_1 a0_2 a0_3 a0_4 a0_5 a0_6 a0_7 a0_8 a0_9 a0_10 a0_11 a0_12 a0_13 a0_14))) = some r := by rw [if_neg (show ¬ (false = true) by decide)] at H; exact H
    clear H
    have H := H1
    clear H1
    replace H := Option.bind_eq_some_iff.mp H
    obtain ⟨⟨t102, t103, t104⟩, A80, H⟩ := H
    replace H : (if a0_0 = 7 then (msg_Right.j1 kj1 t102 t103 t104 1 a0_0 a0_1 a0_2 a0_3 a0_4 a0_5 a0_6 a0_7 a0_8 a0_9 a0_10 a0_11 a0_12 a0_13 a0_14) else (msg_Right.j1 kj1 t102 t103 t104 65535 a0_0 a0_1 a0_2 a0_3 a0_4 a0_5 a0_6 a0_7 a0_8 a0_9 a0_10 a0_11 a0_12 a0_13 a0_14)) = some r := H
    have A8 := Aside0.mk A80
    clear A80
    have HC9 := Aside0.mk H
    clear H
    have hcz10 := Mine.cells15 BK101.out
    have hfz10_0 := blk_frozen BK101.out
    go_upto_if 24 with (first | ((with_reducible refine gate_callee (f := 15) rfl ?_); refine goesL_ (some 18) rfl rfl Try.func15 (by kernel_rfl) rfl #[.int .i64 a0_0] rfl (by (try simp only [List.map_toArray, List.map_cons, List.map_nil]); first | done | rfl | (simp only [List.length_drop, List.length_take]; rfl)) ?_; (with_reducible refine (msg_bears.calls a0_0 t102 t103 t104 _ A8.out).mono ?_); rintro e w' ⟨rfl, ⟨nd, rfl⟩⟩; refine ⟨_, rfl, ?_⟩))
    (try simp only [Act.put, List.setIfInBounds_toArray, List.set_cons_zero, List.set_cons_succ])
    go_cut [6] (fun v6 wc => ∃ (kq : Nat) (x6_8 : Int), v6 = .int .i64 x6_8 ∧ Aside0 (msg_Right.j1 kq t102 t103 t104 x6_8 a0_0 a0_1 a0_2 a0_3 a0_4 a0_5 a0_6 a0_7 a0_8 a0_9 a0_10 a0_11 a0_12 a0_13 a0_14 = some r) ∧ Aside0 (kq ≤ kj1) ∧ Aside0 (wc.heap[gb101]? = some (.cells #[.int .i64 a0_0, .int .u64 a0_1, .int .u64 a0_2, .int .i64 a0_3, .int .i64 a0_4, .int .u32 a0_5, .int .u32 a0_6, .int .u64 a0_7, .int .u64 a0_8, .int .u64 a0_9, .int .u64 a0_10, .int .u64 a0_11, .int .u64 a0_12, .int .u64 a0_13, .string a0_14] 28 (0, 0))) ∧ Aside0 (Below w.heap.size w wc))
    case first =>
     have H := HC9.out
     clear HC9
     by_cases c11 : a0_0 = 7
     ·rw [if_pos c11] at H
      have c11b0 : (a0_0 == 7) = true := beq_iff_eq.mpr c11
      have c11b1 : (a0_0 != 7) = false := bne_eq_false_iff_eq.mpr c11
      clear c11
      (first | rw [c11b0] | (simp only [i64_w, i32_w]; rw [c11b0]) | skip)
      have H' := Aside0.mk H
      clear H
      go_wp2
      go_meet
      case rel => exact ⟨_, (1), (by first | rfl | (simp; done) | (simp [*]; done)), H', ⟨by have := HJ1.out; first | omega | exact Nat.le_refl _⟩, ⟨by (with_reducible repeat (first | refine blk_drewN ?_ _ | refine blk_drew ?_ | refine blk_alloc ?_ _)); exact BK101.out⟩, ⟨by repeat (first | (with_reducible first | exact HB.out | apply below_alloc | apply pw_below_drewN | apply below_drew1 | refine below_set ?_ GE101.out) | exact HB.out)⟩⟩
     ·rw [if_neg c11] at H
      have c11b0 : (a0_0 == 7) = false := beq_eq_false_iff_ne.mpr c11
      have c11b1 : (a0_0 != 7) = true := bne_iff_ne.mpr c11
      (first | rw [c11b0] | (simp only [i64_w, i32_w]; rw [c11b0]) | skip)
      have H' := Aside0.mk H
      clear H
      go_wp2
      go_meet
      case rel => exact ⟨_, (65535), (by first | rfl | (simp; done) | (simp [*]; done)), H', ⟨by have := HJ1.out; first | omega | exact Nat.le_refl _⟩, ⟨by (with_reducible repeat (first | refine blk_drewN ?_ _ | refine blk_drew ?_ | refine blk_alloc ?_ _)); exact BK101.out⟩, ⟨by repeat (first | (with_reducible first | exact HB.out | apply below_alloc | apply pw_below_drewN | apply below_drew1 | refine below_set ?_ GE101.out) | exact HB.out)⟩⟩
    case rest =>
     clear HC9
     try clear c1
     try clear p2
     try clear c4
     try clear c4b0
     try clear c7
     try clear c11
     try clear c11b0
     try clear c11b1
     try clear hcz10
     try clear hcz5
     try clear hcz6
     try clear hfz10_0
     try clear hfz5_0
     try clear hfz6_0
     try clear p2
     obtain ⟨kq, x6_8, rfl, HA, HJ8, BK101, HB⟩ := hcut
     cases kq with
     | zero => exact absurd HA.out (by simp [msg_Right.j1])
     | succ kj8 =>
      have H := HA.out
      clear HA
      simp only [msg_Right.j1] at H
      by_cases c12 : t104 = true
      ·subst c12
       have H1 : (if t103 = true then (if a0_3 < 1 then (some false) else (if a0_3 > 4 then (some false) else (if (a0_14.size : Int) > 256 then (some false) else (if t102 = true then (if a0_4 ≥ 0 then (some (decide (a0_4 ≤ x6_8))) else (some false)) else (if a0_2 = 0 then (if a0_4 ≥ 0 then (some (decide (a0_4 ≤ x6_8))) else (some false)) else (some false)))))) else (if a0_3 = 0 then (if a0_14.toList = ([] : List UInt8) then (if (!(a0_5 == 0) || (!(a0_6 == 0) || (!(a0_7 == 0) || ((!(a0_8 == 0) || (!(a0_9 == 0) || (!(a0_10 == 0) || (!(a0_11 == 0) || (!(a0_12 == 0) || (!(a0_13 == 0))))))))))) = true then (some false) else (if t102 = true then (if a0_4 ≥ 0 then (some (decide (a0_4 ≤ x6_8))) else (some false)) else (if a0_2 = 0 then (if a0_4 ≥ 0 then (some (decide (a0_4 ≤ x6_8))) else (some false)) else (some false)))) else (some false)) else (some false))) = some r := by rw [if_pos rfl] at H; exact H
       clear H
       have H := H1
       clear H1
       by_cases c13 : t103 = true
       ·subst c13
        have H1 : (if a0_3 < 1 then (some false) else (if a0_3 > 4 then (some false) else (if (a0_14.size : Int) > 256 then (some false) else (if t102 = true then (if a0_4 ≥ 0 then (some (decide (a0_4 ≤ x6_8))) else (some false)) else (if a0_2 = 0 then (if a0_4 ≥ 0 then (some (decide (a0_4 ≤ x6_8))) else (some false)) else (some false)))))) = some r := by rw [if_pos rfl] at H; exact H
        clear H
        have H := H1
        clear H1
        by_cases c14 : a0_3 < 1
        ·rw [if_pos c14] at H
         have c14b0 : decide (a0_3 < 1) = true := decide_eq_true c14
         clear c14
         obtain rfl := Option.some.inj H
         have hcz15 := Mine.cells15 BK101.out
         have hfz15_0 := blk_frozen BK101.out
         go_wp2
         go_ret
         exact ⟨by first | rfl | (simp [errW_none, errW_some] <;> rfl) | (simp [*, errW_none, errW_some] <;> rfl), by repeat (first | (with_reducible first | exact HB.out | apply below_alloc | apply pw_below_drewN | apply below_drew1 | refine below_set ?_ GE101.out) | exact HB.out)⟩
        ·rw [if_neg c14] at H
         have c14b0 : decide (a0_3 < 1) = false := decide_eq_false c14
         clear c14
         by_cases c16 : a0_3 > 4
         ·rw [if_pos c16] at H
          have c16b0 : decide (4 < a0_3) = true := decide_eq_true c16
          clear c16
          obtain rfl := Option.some.inj H
          have hcz17 := Mine.cells15 BK101.out
          have hfz17_0 := blk_frozen BK101.out
          go_wp2
          go_ret
          exact ⟨by first | rfl | (simp [errW_none, errW_some] <;> rfl) | (simp [*, errW_none, errW_some] <;> rfl), by repeat (first | (with_reducible first | exact HB.out | apply below_alloc | apply pw_below_drewN | apply below_drew1 | refine below_set ?_ GE101.out) | exact HB.out)⟩
         ·rw [if_neg c16] at H
          have c16b0 : decide (4 < a0_3) = false := decide_eq_false c16
          clear c16
          by_cases c18 : (a0_14.size : Int) > 256
          ·rw [if_pos c18] at H
           have c18b0 : decide (256 < (a0_14.size : Int)) = true := decide_eq_true c18
           have c18b1 : decide (256 < a0_14.size) = true := decide_eq_true (by omega)
           clear c18
           obtain rfl := Option.some.inj H
           have hcz19 := Mine.cells15 BK101.out
           have hfz19_0 := blk_frozen BK101.out
           go_wp2
           go_ret
           exact ⟨by first | rfl | (simp [errW_none, errW_some] <;> rfl) | (simp [*, errW_none, errW_some] <;> rfl), by repeat (first | (with_reducible first | exact HB.out | apply below_alloc | apply pw_below_drewN | apply below_drew1 | refine below_set ?_ GE101.out) | exact HB.out)⟩
          ·rw [if_neg c18] at H
           have c18b0 : decide (256 < (a0_14.size : Int)) = false := decide_eq_false c18
           have c18b1 : decide (256 < a0_14.size) = false := decide_eq_false (by omega)
           clear c18
           by_cases c20 : t102 = true
           ·subst c20
            have H1 : (if a0_4 ≥ 0 then (some (decide (a0_4 ≤ x6_8))) else (some false)) = some r := by rw [if_pos rfl] at H; exact H
            clear H
            have H := H1
            clear H1
            by_cases c21 : a0_4 ≥ 0
            ·rw [if_pos c21] at H
             have c21b0 : decide (0 ≤ a0_4) = true := decide_eq_true c21
             clear c21
             obtain rfl := Option.some.inj H
             have hcz22 := Mine.cells15 BK101.out
             have hfz22_0 := blk_frozen BK101.out
             go_wp2
             go_ret
             exact ⟨by first | rfl | (simp [errW_none, errW_some] <;> rfl) | (simp [*, errW_none, errW_some] <;> rfl), by repeat (first | (with_reducible first | exact HB.out | apply below_alloc | apply pw_below_drewN | apply below_drew1 | refine below_set ?_ GE101.out) | exact HB.out)⟩
            ·rw [if_neg c21] at H
             have c21b0 : decide (0 ≤ a0_4) = false := decide_eq_false c21
             clear c21
             obtain rfl := Option.some.inj H
             have hcz23 := Mine.cells15 BK101.out
             have hfz23_0 := blk_frozen BK101.out
             go_wp2
             go_ret
             exact ⟨by first | rfl | (simp [errW_none, errW_some] <;> rfl) | (simp [*, errW_none, errW_some] <;> rfl), by repeat (first | (with_reducible first | exact HB.out | apply below_alloc | apply pw_below_drewN | apply below_drew1 | refine below_set ?_ GE101.out) | exact HB.out)⟩
           ·replace c20 := Bool.eq_false_iff.mpr c20
            subst c20
            have H1 : (if a0_2 = 0 then (if a0_4 ≥ 0 then (some (decide (a0_4 ≤ x6_8))) else (some false)) else (some false)) = some r := by rw [if_neg (show ¬ (false = true) by decide)] at H; exact H
            clear H
            have H := H1
            clear H1
            by_cases c24 : a0_2 = 0
            ·rw [if_pos c24] at H
             have c24b0 : (a0_2 == 0) = true := beq_iff_eq.mpr c24
             have c24b1 : (a0_2 != 0) = false := bne_eq_false_iff_eq.mpr c24
             clear c24
             by_cases c25 : a0_4 ≥ 0
             ·rw [if_pos c25] at H
              have c25b0 : decide (0 ≤ a0_4) = true := decide_eq_true c25
              clear c25
              obtain rfl := Option.some.inj H
              have hcz26 := Mine.cells15 BK101.out
              have hfz26_0 := blk_frozen BK101.out
              go_wp2
              go_ret
              exact ⟨by first | rfl | (simp [errW_none, errW_some] <;> rfl) | (simp [*, errW_none, errW_some] <;> rfl), by repeat (first | (with_reducible first | exact HB.out | apply below_alloc | apply pw_below_drewN | apply below_drew1 | refine below_set ?_ GE101.out) | exact HB.out)⟩
             ·rw [if_neg c25] at H
              have c25b0 : decide (0 ≤ a0_4) = false := decide_eq_false c25
              clear c25
              obtain rfl := Option.some.inj H
              have hcz27 := Mine.cells15 BK101.out
              have hfz27_0 := blk_frozen BK101.out
              go_wp2
              go_ret
              exact ⟨by first | rfl | (simp [errW_none, errW_some] <;> rfl) | (simp [*, errW_none, errW_some] <;> rfl), by repeat (first | (with_reducible first | exact HB.out | apply below_alloc | apply pw_below_drewN | apply below_drew1 | refine below_set ?_ GE101.out) | exact HB.out)⟩
            ·rw [if_neg c24] at H
             have c24b0 : (a0_2 == 0) = false := beq_eq_false_iff_ne.mpr c24
             have c24b1 : (a0_2 != 0) = true := bne_iff_ne.mpr c24
             obtain rfl := Option.some.inj H
             have hcz28 := Mine.cells15 BK101.out
             have hfz28_0 := blk_frozen BK101.out
             go_wp2
             go_ret
             exact ⟨by first | rfl | (simp [errW_none, errW_some] <;> rfl) | (simp [*, errW_none, errW_some] <;> rfl), by repeat (first | (with_reducible first | exact HB.out | apply below_alloc | apply pw_below_drewN | apply below_drew1 | refine below_set ?_ GE101.out) | exact HB.out)⟩
       ·replace c13 := Bool.eq_false_iff.mpr c13
        subst c13
        have H1 : (if a0_3 = 0 then (if a0_14.toList = ([] : List UInt8) then (if (!(a0_5 == 0) || (!(a0_6 == 0) || (!(a0_7 == 0) || ((!(a0_8 == 0) || (!(a0_9 == 0) || (!(a0_10 == 0) || (!(a0_11 == 0) || (!(a0_12 == 0) || (!(a0_13 == 0))))))))))) = true then (some false) else (if t102 = true then (if a0_4 ≥ 0 then (some (decide (a0_4 ≤ x6_8))) else (some false)) else (if a0_2 = 0 then (if a0_4 ≥ 0 then (some (decide (a0_4 ≤ x6_8))) else (some false)) else (some false)))) else (some false)) else (some false)) = some r := by rw [if_neg (show ¬ (false = true) by decide)] at H; exact H
        clear H
        have H := H1
        clear H1
        by_cases c29 : a0_3 = 0
        ·rw [if_pos c29] at H
         have c29b0 : (a0_3 == 0) = true := beq_iff_eq.mpr c29
         have c29b1 : (a0_3 != 0) = false := bne_eq_false_iff_eq.mpr c29
         clear c29
         by_cases c30 : a0_14.toList = ([] : List UInt8)
         ·rw [if_pos c30] at H
          have c30b0 : (a0_14.toList == ([] : List UInt8)) = true := beq_iff_eq.mpr c30
          have c30b1 : (a0_14.toList != ([] : List UInt8)) = false := bne_eq_false_iff_eq.mpr c30
          clear c30
          by_cases c31 : (!(a0_5 == 0) || (!(a0_6 == 0) || (!(a0_7 == 0) || ((!(a0_8 == 0) || (!(a0_9 == 0) || (!(a0_10 == 0) || (!(a0_11 == 0) || (!(a0_12 == 0) || (!(a0_13 == 0))))))))))) = true
          ·rw [if_pos c31] at H
           have c31b0 : (!(a0_5 == 0) || (!(a0_6 == 0) || (!(a0_7 == 0) || ((!(a0_8 == 0) || (!(a0_9 == 0) || (!(a0_10 == 0) || (!(a0_11 == 0) || (!(a0_12 == 0) || (!(a0_13 == 0))))))))))) = true := c31
           clear c31
           obtain rfl := Option.some.inj H
           have hcz32 := Mine.cells15 BK101.out
           have hfz32_0 := blk_frozen BK101.out
           go_wp2
           go_ret
           exact ⟨by first | rfl | (simp [errW_none, errW_some] <;> rfl) | (simp [*, errW_none, errW_some] <;> rfl), by repeat (first | (with_reducible first | exact HB.out | apply below_alloc | apply pw_below_drewN | apply below_drew1 | refine below_set ?_ GE101.out) | exact HB.out)⟩
          ·rw [if_neg c31] at H
           have c31b0 : (!(a0_5 == 0) || (!(a0_6 == 0) || (!(a0_7 == 0) || ((!(a0_8 == 0) || (!(a0_9 == 0) || (!(a0_10 == 0) || (!(a0_11 == 0) || (!(a0_12 == 0) || (!(a0_13 == 0))))))))))) = false := by simpa using c31
           clear c31
           by_cases c33 : t102 = true
           ·subst c33
            have H1 : (if a0_4 ≥ 0 then (some (decide (a0_4 ≤ x6_8))) else (some false)) = some r := by rw [if_pos rfl] at H; exact H
            clear H
            have H := H1
            clear H1
            by_cases c34 : a0_4 ≥ 0
            ·rw [if_pos c34] at H
             have c34b0 : decide (0 ≤ a0_4) = true := decide_eq_true c34
             clear c34
             obtain rfl := Option.some.inj H
             have hcz35 := Mine.cells15 BK101.out
             have hfz35_0 := blk_frozen BK101.out
             go_wp2
             go_ret
             exact ⟨by first | rfl | (simp [errW_none, errW_some] <;> rfl) | (simp [*, errW_none, errW_some] <;> rfl), by repeat (first | (with_reducible first | exact HB.out | apply below_alloc | apply pw_below_drewN | apply below_drew1 | refine below_set ?_ GE101.out) | exact HB.out)⟩
            ·rw [if_neg c34] at H
             have c34b0 : decide (0 ≤ a0_4) = false := decide_eq_false c34
             clear c34
             obtain rfl := Option.some.inj H
             have hcz36 := Mine.cells15 BK101.out
             have hfz36_0 := blk_frozen BK101.out
             go_wp2
             go_ret
             exact ⟨by first | rfl | (simp [errW_none, errW_some] <;> rfl) | (simp [*, errW_none, errW_some] <;> rfl), by repeat (first | (with_reducible first | exact HB.out | apply below_alloc | apply pw_below_drewN | apply below_drew1 | refine below_set ?_ GE101.out) | exact HB.out)⟩
           ·replace c33 := Bool.eq_false_iff.mpr c33
            subst c33
            have H1 : (if a0_2 = 0 then (if a0_4 ≥ 0 then (some (decide (a0_4 ≤ x6_8))) else (some false)) else (some false)) = some r := by rw [if_neg (show ¬ (false = true) by decide)] at H; exact H
            clear H
            have H := H1
            clear H1
            by_cases c37 : a0_2 = 0
            ·rw [if_pos c37] at H
             have c37b0 : (a0_2 == 0) = true := beq_iff_eq.mpr c37
             have c37b1 : (a0_2 != 0) = false := bne_eq_false_iff_eq.mpr c37
             clear c37
             by_cases c38 : a0_4 ≥ 0
             ·rw [if_pos c38] at H
              have c38b0 : decide (0 ≤ a0_4) = true := decide_eq_true c38
              clear c38
              obtain rfl := Option.some.inj H
              have hcz39 := Mine.cells15 BK101.out
              have hfz39_0 := blk_frozen BK101.out
              go_wp2
              go_ret
              exact ⟨by first | rfl | (simp [errW_none, errW_some] <;> rfl) | (simp [*, errW_none, errW_some] <;> rfl), by repeat (first | (with_reducible first | exact HB.out | apply below_alloc | apply pw_below_drewN | apply below_drew1 | refine below_set ?_ GE101.out) | exact HB.out)⟩
             ·rw [if_neg c38] at H
              have c38b0 : decide (0 ≤ a0_4) = false := decide_eq_false c38
              clear c38
              obtain rfl := Option.some.inj H
              have hcz40 := Mine.cells15 BK101.out
              have hfz40_0 := blk_frozen BK101.out
              go_wp2
              go_ret
              exact ⟨by first | rfl | (simp [errW_none, errW_some] <;> rfl) | (simp [*, errW_none, errW_some] <;> rfl), by repeat (first | (with_reducible first | exact HB.out | apply below_alloc | apply pw_below_drewN | apply below_drew1 | refine below_set ?_ GE101.out) | exact HB.out)⟩
            ·rw [if_neg c37] at H
             have c37b0 : (a0_2 == 0) = false := beq_eq_false_iff_ne.mpr c37
             have c37b1 : (a0_2 != 0) = true := bne_iff_ne.mpr c37
             obtain rfl := Option.some.inj H
             have hcz41 := Mine.cells15 BK101.out
             have hfz41_0 := blk_frozen BK101.out
             go_wp2
             go_ret
             exact ⟨by first | rfl | (simp [errW_none, errW_some] <;> rfl) | (simp [*, errW_none, errW_some] <;> rfl), by repeat (first | (with_reducible first | exact HB.out | apply below_alloc | apply pw_below_drewN | apply below_drew1 | refine below_set ?_ GE101.out) | exact HB.out)⟩
         ·rw [if_neg c30] at H
          have c30b0 : (a0_14.toList == ([] : List UInt8)) = false := beq_eq_false_iff_ne.mpr c30
          have c30b1 : (a0_14.toList != ([] : List UInt8)) = true := bne_iff_ne.mpr c30
          obtain rfl := Option.some.inj H
          have hcz42 := Mine.cells15 BK101.out
          have hfz42_0 := blk_frozen BK101.out
          go_wp2
          go_ret
          exact ⟨by first | rfl | (simp [errW_none, errW_some] <;> rfl) | (simp [*, errW_none, errW_some] <;> rfl), by repeat (first | (with_reducible first | exact HB.out | apply below_alloc | apply pw_below_drewN | apply below_drew1 | refine below_set ?_ GE101.out) | exact HB.out)⟩
        ·rw [if_neg c29] at H
         have c29b0 : (a0_3 == 0) = false := beq_eq_false_iff_ne.mpr c29
         have c29b1 : (a0_3 != 0) = true := bne_iff_ne.mpr c29
         obtain rfl := Option.some.inj H
         have hcz43 := Mine.cells15 BK101.out
         have hfz43_0 := blk_frozen BK101.out
         go_wp2
         go_ret
         exact ⟨by first | rfl | (simp [errW_none, errW_some] <;> rfl) | (simp [*, errW_none, errW_some] <;> rfl), by repeat (first | (with_reducible first | exact HB.out | apply below_alloc | apply pw_below_drewN | apply below_drew1 | refine below_set ?_ GE101.out) | exact HB.out)⟩
      ·replace c12 := Bool.eq_false_iff.mpr c12
       subst c12
       have H1 : (if t103 = true then (if a0_3 < 1 then (some false) else (if a0_3 > 4 then (some false) else (if (a0_14.size : Int) > 256 then (some false) else (if t102 = true then (if a0_4 ≥ 0 then (some (decide (a0_4 ≤ 0))) else (some false)) else (if a0_2 = 0 then (if a0_4 ≥ 0 then (some (decide (a0_4 ≤ 0))) else (some false)) else (some false)))))) else (if a0_3 = 0 then (if a0_14.toList = ([] : List UInt8) then (if (!(a0_5 == 0) || (!(a0_6 == 0) || (!(a0_7 == 0) || ((!(a0_8 == 0) || (!(a0_9 == 0) || (!(a0_10 == 0) || (!(a0_11 == 0) || (!(a0_12 == 0) || (!(a0_13 == 0))))))))))) = true then (some false) else (if t102 = true then (if a0_4 ≥ 0 then (some (decide (a0_4 ≤ 0))) else (some false)) else (if a0_2 = 0 then (if a0_4 ≥ 0 then (some (decide (a0_4 ≤ 0))) else (some false)) else (some false)))) else (some false)) else (some false))) = some r := by rw [if_neg (show ¬ (false = true) by decide)] at H; exact H
       clear H
       have H := H1
       clear H1
       by_cases c44 : t103 = true
       ·subst c44
        have H1 : (if a0_3 < 1 then (some false) else (if a0_3 > 4 then (some false) else (if (a0_14.size : Int) > 256 then (some false) else (if t102 = true then (if a0_4 ≥ 0 then (some (decide (a0_4 ≤ 0))) else (some false)) else (if a0_2 = 0 then (if a0_4 ≥ 0 then (some (decide (a0_4 ≤ 0))) else (some false)) else (some false)))))) = some r := by rw [if_pos rfl] at H; exact H
        clear H
        have H := H1
        clear H1
        by_cases c45 : a0_3 < 1
        ·rw [if_pos c45] at H
         have c45b0 : decide (a0_3 < 1) = true := decide_eq_true c45
         clear c45
         obtain rfl := Option.some.inj H
         have hcz46 := Mine.cells15 BK101.out
         have hfz46_0 := blk_frozen BK101.out
         go_wp2
         go_ret
         exact ⟨by first | rfl | (simp [errW_none, errW_some] <;> rfl) | (simp [*, errW_none, errW_some] <;> rfl), by repeat (first | (with_reducible first | exact HB.out | apply below_alloc | apply pw_below_drewN | apply below_drew1 | refine below_set ?_ GE101.out) | exact HB.out)⟩
        ·rw [if_neg c45] at H
         have c45b0 : decide (a0_3 < 1) = false := decide_eq_false c45
         clear c45
         by_cases c47 : a0_3 > 4
         ·rw [if_pos c47] at H
          have c47b0 : decide (4 < a0_3) = true := decide_eq_true c47
          clear c47
          obtain rfl := Option.some.inj H
          have hcz48 := Mine.cells15 BK101.out
          have hfz48_0 := blk_frozen BK101.out
          go_wp2
          go_ret
          exact ⟨by first | rfl | (simp [errW_none, errW_some] <;> rfl) | (simp [*, errW_none, errW_some] <;> rfl), by repeat (first | (with_reducible first | exact HB.out | apply below_alloc | apply pw_below_drewN | apply below_drew1 | refine below_set ?_ GE101.out) | exact HB.out)⟩
         ·rw [if_neg c47] at H
          have c47b0 : decide (4 < a0_3) = false := decide_eq_false c47
          clear c47
          by_cases c49 : (a0_14.size : Int) > 256
          ·rw [if_pos c49] at H
           have c49b0 : decide (256 < (a0_14.size : Int)) = true := decide_eq_true c49
           have c49b1 : decide (256 < a0_14.size) = true := decide_eq_true (by omega)
           clear c49
           obtain rfl := Option.some.inj H
           have hcz50 := Mine.cells15 BK101.out
           have hfz50_0 := blk_frozen BK101.out
           go_wp2
           go_ret
           exact ⟨by first | rfl | (simp [errW_none, errW_some] <;> rfl) | (simp [*, errW_none, errW_some] <;> rfl), by repeat (first | (with_reducible first | exact HB.out | apply below_alloc | apply pw_below_drewN | apply below_drew1 | refine below_set ?_ GE101.out) | exact HB.out)⟩
          ·rw [if_neg c49] at H
           have c49b0 : decide (256 < (a0_14.size : Int)) = false := decide_eq_false c49
           have c49b1 : decide (256 < a0_14.size) = false := decide_eq_false (by omega)
           clear c49
           by_cases c51 : t102 = true
           ·subst c51
            have H1 : (if a0_4 ≥ 0 then (some (decide (a0_4 ≤ 0))) else (some false)) = some r := by rw [if_pos rfl] at H; exact H
            clear H
            have H := H1
            clear H1
            by_cases c52 : a0_4 ≥ 0
            ·rw [if_pos c52] at H
             have c52b0 : decide (0 ≤ a0_4) = true := decide_eq_true c52
             clear c52
             obtain rfl := Option.some.inj H
             have hcz53 := Mine.cells15 BK101.out
             have hfz53_0 := blk_frozen BK101.out
             go_wp2
             go_ret
             exact ⟨by first | rfl | (simp [errW_none, errW_some] <;> rfl) | (simp [*, errW_none, errW_some] <;> rfl), by repeat (first | (with_reducible first | exact HB.out | apply below_alloc | apply pw_below_drewN | apply below_drew1 | refine below_set ?_ GE101.out) | exact HB.out)⟩
            ·rw [if_neg c52] at H
             have c52b0 : decide (0 ≤ a0_4) = false := decide_eq_false c52
             clear c52
             obtain rfl := Option.some.inj H
             have hcz54 := Mine.cells15 BK101.out
             have hfz54_0 := blk_frozen BK101.out
             go_wp2
             go_ret
             exact ⟨by first | rfl | (simp [errW_none, errW_some] <;> rfl) | (simp [*, errW_none, errW_some] <;> rfl), by repeat (first | (with_reducible first | exact HB.out | apply below_alloc | apply pw_below_drewN | apply below_drew1 | refine below_set ?_ GE101.out) | exact HB.out)⟩
           ·replace c51 := Bool.eq_false_iff.mpr c51
            subst c51
            have H1 : (if a0_2 = 0 then (if a0_4 ≥ 0 then (some (decide (a0_4 ≤ 0))) else (some false)) else (some false)) = some r := by rw [if_neg (show ¬ (false = true) by decide)] at H; exact H
            clear H
            have H := H1
            clear H1
            by_cases c55 : a0_2 = 0
            ·rw [if_pos c55] at H
             have c55b0 : (a0_2 == 0) = true := beq_iff_eq.mpr c55
             have c55b1 : (a0_2 != 0) = false := bne_eq_false_iff_eq.mpr c55
             clear c55
             by_cases c56 : a0_4 ≥ 0
             ·rw [if_pos c56] at H
              have c56b0 : decide (0 ≤ a0_4) = true := decide_eq_true c56
              clear c56
              obtain rfl := Option.some.inj H
              have hcz57 := Mine.cells15 BK101.out
              have hfz57_0 := blk_frozen BK101.out
              go_wp2
              go_ret
              exact ⟨by first | rfl | (simp [errW_none, errW_some] <;> rfl) | (simp [*, errW_none, errW_some] <;> rfl), by repeat (first | (with_reducible first | exact HB.out | apply below_alloc | apply pw_below_drewN | apply below_drew1 | refine below_set ?_ GE101.out) | exact HB.out)⟩
             ·rw [if_neg c56] at H
              have c56b0 : decide (0 ≤ a0_4) = false := decide_eq_false c56
              clear c56
              obtain rfl := Option.some.inj H
              have hcz58 := Mine.cells15 BK101.out
              have hfz58_0 := blk_frozen BK101.out
              go_wp2
              go_ret
              exact ⟨by first | rfl | (simp [errW_none, errW_some] <;> rfl) | (simp [*, errW_none, errW_some] <;> rfl), by repeat (first | (with_reducible first | exact HB.out | apply below_alloc | apply pw_below_drewN | apply below_drew1 | refine below_set ?_ GE101.out) | exact HB.out)⟩
            ·rw [if_neg c55] at H
             have c55b0 : (a0_2 == 0) = false := beq_eq_false_iff_ne.mpr c55
             have c55b1 : (a0_2 != 0) = true := bne_iff_ne.mpr c55
             obtain rfl := Option.some.inj H
             have hcz59 := Mine.cells15 BK101.out
             have hfz59_0 := blk_frozen BK101.out
             go_wp2
             go_ret
             exact ⟨by first | rfl | (simp [errW_none, errW_some] <;> rfl) | (simp [*, errW_none, errW_some] <;> rfl), by repeat (first | (with_reducible first | exact HB.out | apply below_alloc | apply pw_below_drewN | apply below_drew1 | refine below_set ?_ GE101.out) | exact HB.out)⟩
       ·replace c44 := Bool.eq_false_iff.mpr c44
        subst c44
        have H1 : (if a0_3 = 0 then (if a0_14.toList = ([] : List UInt8) then (if (!(a0_5 == 0) || (!(a0_6 == 0) || (!(a0_7 == 0) || ((!(a0_8 == 0) || (!(a0_9 == 0) || (!(a0_10 == 0) || (!(a0_11 == 0) || (!(a0_12 == 0) || (!(a0_13 == 0))))))))))) = true then (some false) else (if t102 = true then (if a0_4 ≥ 0 then (some (decide (a0_4 ≤ 0))) else (some false)) else (if a0_2 = 0 then (if a0_4 ≥ 0 then (some (decide (a0_4 ≤ 0))) else (some false)) else (some false)))) else (some false)) else (some false)) = some r := by rw [if_neg (show ¬ (false = true) by decide)] at H; exact H
        clear H
        have H := H1
        clear H1
        by_cases c60 : a0_3 = 0
        ·rw [if_pos c60] at H
         have c60b0 : (a0_3 == 0) = true := beq_iff_eq.mpr c60
         have c60b1 : (a0_3 != 0) = false := bne_eq_false_iff_eq.mpr c60
         clear c60
         by_cases c61 : a0_14.toList = ([] : List UInt8)
         ·rw [if_pos c61] at H
          have c61b0 : (a0_14.toList == ([] : List UInt8)) = true := beq_iff_eq.mpr c61
          have c61b1 : (a0_14.toList != ([] : List UInt8)) = false := bne_eq_false_iff_eq.mpr c61
          clear c61
          by_cases c62 : (!(a0_5 == 0) || (!(a0_6 == 0) || (!(a0_7 == 0) || ((!(a0_8 == 0) || (!(a0_9 == 0) || (!(a0_10 == 0) || (!(a0_11 == 0) || (!(a0_12 == 0) || (!(a0_13 == 0))))))))))) = true
          ·rw [if_pos c62] at H
           have c62b0 : (!(a0_5 == 0) || (!(a0_6 == 0) || (!(a0_7 == 0) || ((!(a0_8 == 0) || (!(a0_9 == 0) || (!(a0_10 == 0) || (!(a0_11 == 0) || (!(a0_12 == 0) || (!(a0_13 == 0))))))))))) = true := c62
           clear c62
           obtain rfl := Option.some.inj H
           have hcz63 := Mine.cells15 BK101.out
           have hfz63_0 := blk_frozen BK101.out
           go_wp2
           go_ret
           exact ⟨by first | rfl | (simp [errW_none, errW_some] <;> rfl) | (simp [*, errW_none, errW_some] <;> rfl), by repeat (first | (with_reducible first | exact HB.out | apply below_alloc | apply pw_below_drewN | apply below_drew1 | refine below_set ?_ GE101.out) | exact HB.out)⟩
          ·rw [if_neg c62] at H
           have c62b0 : (!(a0_5 == 0) || (!(a0_6 == 0) || (!(a0_7 == 0) || ((!(a0_8 == 0) || (!(a0_9 == 0) || (!(a0_10 == 0) || (!(a0_11 == 0) || (!(a0_12 == 0) || (!(a0_13 == 0))))))))))) = false := by simpa using c62
           clear c62
           by_cases c64 : t102 = true
           ·subst c64
            have H1 : (if a0_4 ≥ 0 then (some (decide (a0_4 ≤ 0))) else (some false)) = some r := by rw [if_pos rfl] at H; exact H
            clear H
            have H := H1
            clear H1
            by_cases c65 : a0_4 ≥ 0
            ·rw [if_pos c65] at H
             have c65b0 : decide (0 ≤ a0_4) = true := decide_eq_true c65
             clear c65
             obtain rfl := Option.some.inj H
             have hcz66 := Mine.cells15 BK101.out
             have hfz66_0 := blk_frozen BK101.out
             go_wp2
             go_ret
             exact ⟨by first | rfl | (simp [errW_none, errW_some] <;> rfl) | (simp [*, errW_none, errW_some] <;> rfl), by repeat (first | (with_reducible first | exact HB.out | apply below_alloc | apply pw_below_drewN | apply below_drew1 | refine below_set ?_ GE101.out) | exact HB.out)⟩
            ·rw [if_neg c65] at H
             have c65b0 : decide (0 ≤ a0_4) = false := decide_eq_false c65
             clear c65
             obtain rfl := Option.some.inj H
             have hcz67 := Mine.cells15 BK101.out
             have hfz67_0 := blk_frozen BK101.out
             go_wp2
             go_ret
             exact ⟨by first | rfl | (simp [errW_none, errW_some] <;> rfl) | (simp [*, errW_none, errW_some] <;> rfl), by repeat (first | (with_reducible first | exact HB.out | apply below_alloc | apply pw_below_drewN | apply below_drew1 | refine below_set ?_ GE101.out) | exact HB.out)⟩
           ·replace c64 := Bool.eq_false_iff.mpr c64
            subst c64
            have H1 : (if a0_2 = 0 then (if a0_4 ≥ 0 then (some (decide (a0_4 ≤ 0))) else (some false)) else (some false)) = some r := by rw [if_neg (show ¬ (false = true) by decide)] at H; exact H
            clear H
            have H := H1
            clear H1
            by_cases c68 : a0_2 = 0
            ·rw [if_pos c68] at H
             have c68b0 : (a0_2 == 0) = true := beq_iff_eq.mpr c68
             have c68b1 : (a0_2 != 0) = false := bne_eq_false_iff_eq.mpr c68
             clear c68
             by_cases c69 : a0_4 ≥ 0
             ·rw [if_pos c69] at H
              have c69b0 : decide (0 ≤ a0_4) = true := decide_eq_true c69
              clear c69
              obtain rfl := Option.some.inj H
              have hcz70 := Mine.cells15 BK101.out
              have hfz70_0 := blk_frozen BK101.out
              go_wp2
              go_ret
              exact ⟨by first | rfl | (simp [errW_none, errW_some] <;> rfl) | (simp [*, errW_none, errW_some] <;> rfl), by repeat (first | (with_reducible first | exact HB.out | apply below_alloc | apply pw_below_drewN | apply below_drew1 | refine below_set ?_ GE101.out) | exact HB.out)⟩
             ·rw [if_neg c69] at H
              have c69b0 : decide (0 ≤ a0_4) = false := decide_eq_false c69
              clear c69
              obtain rfl := Option.some.inj H
              have hcz71 := Mine.cells15 BK101.out
              have hfz71_0 := blk_frozen BK101.out
              go_wp2
              go_ret
              exact ⟨by first | rfl | (simp [errW_none, errW_some] <;> rfl) | (simp [*, errW_none, errW_some] <;> rfl), by repeat (first | (with_reducible first | exact HB.out | apply below_alloc | apply pw_below_drewN | apply below_drew1 | refine below_set ?_ GE101.out) | exact HB.out)⟩
            ·rw [if_neg c68] at H
             have c68b0 : (a0_2 == 0) = false := beq_eq_false_iff_ne.mpr c68
             have c68b1 : (a0_2 != 0) = true := bne_iff_ne.mpr c68
             obtain rfl := Option.some.inj H
             have hcz72 := Mine.cells15 BK101.out
             have hfz72_0 := blk_frozen BK101.out
             go_wp2
             go_ret
             exact ⟨by first | rfl | (simp [errW_none, errW_some] <;> rfl) | (simp [*, errW_none, errW_some] <;> rfl), by repeat (first | (with_reducible first | exact HB.out | apply below_alloc | apply pw_below_drewN | apply below_drew1 | refine below_set ?_ GE101.out) | exact HB.out)⟩
         ·rw [if_neg c61] at H
          have c61b0 : (a0_14.toList == ([] : List UInt8)) = false := beq_eq_false_iff_ne.mpr c61
          have c61b1 : (a0_14.toList != ([] : List UInt8)) = true := bne_iff_ne.mpr c61
          obtain rfl := Option.some.inj H
          have hcz73 := Mine.cells15 BK101.out
          have hfz73_0 := blk_frozen BK101.out
          go_wp2
          go_ret
          exact ⟨by first | rfl | (simp [errW_none, errW_some] <;> rfl) | (simp [*, errW_none, errW_some] <;> rfl), by repeat (first | (with_reducible first | exact HB.out | apply below_alloc | apply pw_below_drewN | apply below_drew1 | refine below_set ?_ GE101.out) | exact HB.out)⟩
        ·rw [if_neg c60] at H
         have c60b0 : (a0_3 == 0) = false := beq_eq_false_iff_ne.mpr c60
         have c60b1 : (a0_3 != 0) = true := bne_iff_ne.mpr c60
         obtain rfl := Option.some.inj H
         have hcz74 := Mine.cells15 BK101.out
         have hfz74_0 := blk_frozen BK101.out
         go_wp2
         go_ret
         exact ⟨by first | rfl | (simp [errW_none, errW_some] <;> rfl) | (simp [*, errW_none, errW_some] <;> rfl), by repeat (first | (with_reducible first | exact HB.out | apply below_alloc | apply pw_below_drewN | apply below_drew1 | refine below_set ?_ GE101.out) | exact HB.out)⟩
end Go.Proofs.Ytadglbmghldnfaa.M
