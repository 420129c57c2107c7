-- Laid by a program (wip/tools/myprint.py) out of the loaded program's own print: for each Go function a Lean function and the proof of its contract.
import Derived.Test.YtadglbmghldnfaaDMx0
import Derived.Test.YtadglbmghldnfaaDMx2
namespace Go.Proofs.Ytadglbmghldnfaa.M
open Go.RowKit Go.Proofs.YtadglbmghldnfaaW.PrintWords Go.Proofs.YtadglbmghldnfaaW.PrintLast Go.Proofs.YtadglbmghldnfaaW.PrintMore
attribute [local go_sem] max2_int min2_int max_two min_two max_three min_three max_four min_four   -- for this text's walks alone
set_option linter.unusedVariables false
set_option linter.unusedSimpArgs false
attribute [local go_sem high] eqA28
mutual
def fairleadref17_Right.j0 : Nat → Bool → Int → Int → Int → Int → Int → Int → Int → Int → Int → Int → Int → Int → Int → Int → ByteArray → Option (Bool)
 | 0, _, _, _, _, _, _, _, _, _, _, _, _, _, _, _, _ => none
 | k + 1, x11, Z0, Z1, Z2, Z3, Z4, Z5, Z6, Z7, Z8, Z9, Za, Zb, Zc, Zd, Ze => if x11 = true then (some false) else (if Z0 > 1 then (fairleadref17_Right.j1 k Z0 Z1 Z2 Z3 Z4 Z5 Z6 Z7 Z8 Z9 Za Zb Zc Zd Ze Z0 Z1 Z2 0 0 0 0 0 0 0 0 0 0 0 (⟨#[]⟩ : ByteArray)) else (fairleadref17_Right.j1 k Z0 Z1 Z2 Z3 Z4 Z5 Z6 Z7 Z8 Z9 Za Zb Zc Zd Ze Z0 Z1 0 0 0 0 0 0 0 0 0 0 0 0 (⟨#[]⟩ : ByteArray)))
def fairleadref17_Right.j1 : Nat → Int → Int → Int → Int → Int → Int → Int → Int → Int → Int → Int → Int → Int → Int → ByteArray → Int → Int → Int → Int → Int → Int → Int → Int → Int → Int → Int → Int → Int → Int → ByteArray → Option (Bool)
 | 0, _, _, _, _, _, _, _, _, _, _, _, _, _, _, _, _, _, _, _, _, _, _, _, _, _, _, _, _, _, _ => none
 | k + 1, Z0, Z1, Z2, Z3, Z4, Z5, Z6, Z7, Z8, Z9, Za, Zb, Zc, Zd, Ze, Zf, Zg, Zh, Zi, Zj, Zk, Zl, Zm, Zn, Zo, Zp, Zq, Zr, Zs, Zt => if Z0 = 2 then (if Z3 < 1 then (some false) else (if Z3 > 4 then (some false) else (if (Ze.size : Int) > 256 then (some false) else (fairleadref17_Right.j2 k Z0 Z1 Z2 Z3 Z4 Z5 Z6 Z7 Z8 Z9 Za Zb Zc Zd Ze Zf Zg Zh Z3 Zj Z5 Z6 Z7 Z8 Z9 Za Zb Zc Zd Ze)))) else (fairleadref17_Right.j2 k Z0 Z1 Z2 Z3 Z4 Z5 Z6 Z7 Z8 Z9 Za Zb Zc Zd Ze Zf Zg Zh Zi Zj Zk Zl Zm Zn Zo Zp Zq Zr Zs Zt)
def fairleadref17_Right.j2 : Nat → Int → Int → Int → Int → Int → Int → Int → Int → Int → Int → Int → Int → Int → Int → ByteArray → Int → Int → Int → Int → Int → Int → Int → Int → Int → Int → Int → Int → Int → Int → ByteArray → Option (Bool)
 | 0, _, _, _, _, _, _, _, _, _, _, _, _, _, _, _, _, _, _, _, _, _, _, _, _, _, _, _, _, _, _ => none
 | k + 1, Z0, Z1, Z2, Z3, Z4, Z5, Z6, Z7, Z8, Z9, Za, Zb, Zc, Zd, Ze, Zf, Zg, Zh, Zi, Zj, Zk, Zl, Zm, Zn, Zo, Zp, Zq, Zr, Zs, Zt => if Z0 = 4 then (fairleadref17_Right.j3 k true Z0 Z1 Z2 Z3 Z4 Z5 Z6 Z7 Z8 Z9 Za Zb Zc Zd Ze Zf Zg Zh Zi Zj Zk Zl Zm Zn Zo Zp Zq Zr Zs Zt) else (if Z0 = 5 then (fairleadref17_Right.j3 k true Z0 Z1 Z2 Z3 Z4 Z5 Z6 Z7 Z8 Z9 Za Zb Zc Zd Ze Zf Zg Zh Zi Zj Zk Zl Zm Zn Zo Zp Zq Zr Zs Zt) else (fairleadref17_Right.j3 k (Z0 == 7) Z0 Z1 Z2 Z3 Z4 Z5 Z6 Z7 Z8 Z9 Za Zb Zc Zd Ze Zf Zg Zh Zi Zj Zk Zl Zm Zn Zo Zp Zq Zr Zs Zt))
def fairleadref17_Right.j3 : Nat → Bool → Int → Int → Int → Int → Int → Int → Int → Int → Int → Int → Int → Int → Int → Int → ByteArray → Int → Int → Int → Int → Int → Int → Int → Int → Int → Int → Int → Int → Int → Int → ByteArray → Option (Bool)
 | 0, _, _, _, _, _, _, _, _, _, _, _, _, _, _, _, _, _, _, _, _, _, _, _, _, _, _, _, _, _, _, _ => none
 | k + 1, x61, Z0, Z1, Z2, Z3, Z4, Z5, Z6, Z7, Z8, Z9, Za, Zb, Zc, Zd, Ze, Zf, Zg, Zh, Zi, Zj, Zk, Zl, Zm, Zn, Zo, Zp, Zq, Zr, Zs, Zt => if x61 = true then (if Z4 < 0 then (some false) else (if Z4 > 65535 then (some false) else (if Z0 = 7 then (if Z4 > 1 then (some false) else (some (Zf == Z0 && (Zg == Z1 && (Zh == Z2 && (Zi == Z3 && ((Zk == Z5 && (Zl == Z6 && (Zm == Z7 && ((Zn == Z8 && (Zo == Z9 && (Zp == Za && (Zq == Zb && (Zr == Zc && (Zs == Zd)))))))))) && (Zt.toList == Ze.toList)))))))) else (some (Zf == Z0 && (Zg == Z1 && (Zh == Z2 && (Zi == Z3 && ((Zk == Z5 && (Zl == Z6 && (Zm == Z7 && ((Zn == Z8 && (Zo == Z9 && (Zp == Za && (Zq == Zb && (Zr == Zc && (Zs == Zd)))))))))) && (Zt.toList == Ze.toList)))))))))) else (some (Zf == Z0 && (Zg == Z1 && (Zh == Z2 && (Zi == Z3 && (Zj == Z4 && ((Zk == Z5 && (Zl == Z6 && (Zm == Z7 && ((Zn == Z8 && (Zo == Z9 && (Zp == Za && (Zq == Zb && (Zr == Zc && (Zs == Zd)))))))))) && (Zt.toList == Ze.toList))))))))
end
def fairleadref17_Right.f (k : Nat) (a0_0 : Int) (a0_1 : Int) (a0_2 : Int) (a0_3 : Int) (a0_4 : Int) (a0_5 : Int) (a0_6 : Int) (a0_7 : Int) (a0_8 : Int) (a0_9 : Int) (a0_10 : Int) (a0_11 : Int) (a0_12 : Int) (a0_13 : Int) (a0_14 : ByteArray) : Option (Bool) := if a0_0 < 1 then (fairleadref17_Right.j0 k true a0_0 a0_1 a0_2 a0_3 a0_4 a0_5 a0_6 a0_7 a0_8 a0_9 a0_10 a0_11 a0_12 a0_13 a0_14) else (fairleadref17_Right.j0 k (decide (a0_0 > 7)) a0_0 a0_1 a0_2 a0_3 a0_4 a0_5 a0_6 a0_7 a0_8 a0_9 a0_10 a0_11 a0_12 a0_13 a0_14)
set_option maxHeartbeats 8000000 in
set_option maxRecDepth 100000 in
theorem fairleadref17_Right.calls (k : Nat) (a0_0 : Int) (a0_1 : Int) (a0_2 : Int) (a0_3 : Int) (a0_4 : Int) (a0_5 : Int) (a0_6 : Int) (a0_7 : Int) (a0_8 : Int) (a0_9 : Int) (a0_10 : Int) (a0_11 : Int) (a0_12 : Int) (a0_13 : Int) (a0_14 : ByteArray) (r : Bool) (w : World) (h : fairleadref17_Right.f k a0_0 a0_1 a0_2 a0_3 a0_4 a0_5 a0_6 a0_7 a0_8 a0_9 a0_10 a0_11 a0_12 a0_13 a0_14 = some r) :
  Calls Try.prog 12 #[.agg #[.int .i64 a0_0, .int .u64 a0_1, .int .u64 a0_2, .int .i64 a0_3, .int .i64 a0_4, .int .u32 a0_5, .int .u32 a0_6, .int .u64 a0_7, .int .u64 a0_8, .int .u64 a0_9, .int .u64 a0_10, .int .u64 a0_11, .int .u64 a0_12, .int .u64 a0_13, .string a0_14]] w fun e w' => e = .returned (.bool r) ∧ Below w.heap.size w w' := by
 have hu28 := Try.underlying28
 have hu26 := Try.underlying26
 have HB := Aside0.mk (Below.refl w.heap.size w)
 have H : (if a0_0 < 1 then (fairleadref17_Right.j0 k true a0_0 a0_1 a0_2 a0_3 a0_4 a0_5 a0_6 a0_7 a0_8 a0_9 a0_10 a0_11 a0_12 a0_13 a0_14) else (fairleadref17_Right.j0 k (decide (a0_0 > 7)) a0_0 a0_1 a0_2 a0_3 a0_4 a0_5 a0_6 a0_7 a0_8 a0_9 a0_10 a0_11 a0_12 a0_13 a0_14)) = some r := h
 clear h
 have HC2 := Aside0.mk H
 clear H
 go_enter Try.func12, Try.ntmps12
 go_upto_region 1 with (first | ((with_reducible refine gate_dst (N := 1) rfl ?_); (try (refine gate_guard (by rfl) ?_; dsimp only)); refine box_event ?hg (N := 1) ?hd (cs := #[.int .i64 a0_0, .int .u64 a0_1, .int .u64 a0_2, .int .i64 a0_3, .int .i64 a0_4, .int .u32 a0_5, .int .u32 a0_6, .int .u64 a0_7, .int .u64 a0_8, .int .u64 a0_9, .int .u64 a0_10, .int .u64 a0_11, .int .u64 a0_12, .int .u64 a0_13, .string a0_14]) (t := 28) ?hr ?_; (case hd => rfl); (case hg => rfl); (case hr => first | (go_simp; done) | (go_simp; rfl)); intro gb259 hg w3 hbox hb; have n0_ := Aside0.mk (below_step (by repeat (first | (with_reducible first | exact HB.out | apply below_alloc | apply pw_below_drewN | apply below_drew1) | exact HB.out)) hb); have n1_ := Aside0.mk (hbox); have n2_ := Aside0.mk ((by rw [hg]; exact (below_size (by repeat (first | (with_reducible first | exact HB.out | apply below_alloc | apply pw_below_drewN | apply below_drew1) | exact HB.out))) : w.heap.size ≤ gb259)); have n3_ := Aside0.mk ((by rw [hg]; exact (below_size (by repeat (first | (with_reducible first | exact HB.out | apply below_alloc | apply pw_below_drewN | apply below_drew1) | exact HB.out))) : w.heap.size ≤ gb259)); clear HB; have HB := n0_; have BK259 := n1_; have GW259 := n2_; have GE259 := n3_; clear n0_ n1_ n2_ n3_; clear hb hbox hg))
 (try simp only [Act.put, List.setIfInBounds_toArray, List.set_cons_zero, List.set_cons_succ])
 go_cut [11] (fun v11 wc => ∃ (kq : Nat) (x11_1 : Bool), v11 = .bool x11_1 ∧ Aside0 (fairleadref17_Right.j0 kq x11_1 a0_0 a0_1 a0_2 a0_3 a0_4 a0_5 a0_6 a0_7 a0_8 a0_9 a0_10 a0_11 a0_12 a0_13 a0_14 = some r) ∧ Aside0 (kq ≤ k) ∧ Aside0 (wc.heap[gb259]? = some (.cells #[.int .i64 a0_0, .int .u64 a0_1, .int .u64 a0_2, .int .i64 a0_3, .int .i64 a0_4, .int .u32 a0_5, .int .u32 a0_6, .int .u64 a0_7, .int .u64 a0_8, .int .u64 a0_9, .int .u64 a0_10, .int .u64 a0_11, .int .u64 a0_12, .int .u64 a0_13, .string a0_14] 28 (0, 0))) ∧ Aside0 (Below w.heap.size w wc))
 case first =>
  have H := HC2.out
  clear HC2
  by_cases c4 : a0_0 < 1
  ·rw [if_pos c4] at H
   have c4b0 : decide (a0_0 < 1) = true := decide_eq_true c4
   clear c4
   (first | rw [c4b0] | (simp only [i64_w, i32_w]; rw [c4b0]) | skip)
   have H' := Aside0.mk H
   clear H
   have hcz5 := Mine.cells15 BK259.out
   have hfz5_0 := blk_frozen BK259.out
   go_wp2
   go_meet
   case rel => exact ⟨_, (true), (by first | rfl | (simp; done) | (simp [*]; done)), H', ⟨by first | omega | exact Nat.le_refl _⟩, ⟨by (with_reducible repeat (first | refine blk_drewN ?_ _ | refine blk_drew ?_ | refine blk_alloc ?_ _)); exact BK259.out⟩, ⟨by repeat (first | (with_reducible first | exact HB.out | apply below_alloc | apply pw_below_drewN | apply below_drew1 | refine below_set ?_ GE259.out) | exact HB.out)⟩⟩
  ·rw [if_neg c4] at H
   have c4b0 : decide (a0_0 < 1) = false := decide_eq_false c4
   clear c4
   (first | rw [c4b0] | (simp only [i64_w, i32_w]; rw [c4b0]) | skip)
   have H' := Aside0.mk H
   clear H
   have hcz6 := Mine.cells15 BK259.out
   have hfz6_0 := blk_frozen BK259.out
   go_wp2
   go_meet
   case rel => exact ⟨_, (decide (a0_0 > 7)), (by first | rfl | (simp; done) | (simp [*]; done)), H', ⟨by first | omega | exact Nat.le_refl _⟩, ⟨by (with_reducible repeat (first | refine blk_drewN ?_ _ | refine blk_drew ?_ | refine blk_alloc ?_ _)); exact BK259.out⟩, ⟨by repeat (first | (with_reducible first | exact HB.out | apply below_alloc | apply pw_below_drewN | apply below_drew1 | refine below_set ?_ GE259.out) | exact HB.out)⟩⟩
 case rest =>
  clear HC2
  try clear c1
  try clear p2
  try clear c4
  try clear c4b0
  try clear hcz5
  try clear hcz6
  try clear hfz5_0
  try clear hfz6_0
  obtain ⟨kq, x11_1, rfl, HA, HJ1, BK259, HB⟩ := hcut
  cases kq with
  | zero => exact absurd HA.out (by simp [fairleadref17_Right.j0])
  | succ kj1 =>
   have H := HA.out
   clear HA
   simp only [fairleadref17_Right.j0] at H
   by_cases c7 : x11_1 = true
   ·subst c7
    have H1 : (some false) = some r := by rw [if_pos rfl] at H; exact H
    clear H
    have H := H1
    clear H1
    obtain rfl := Option.some.inj H
    go_wp2
    go_ret
    exact ⟨by first | rfl | (simp [errW_none, errW_some] <;> rfl) | (simp [*, errW_none, errW_some] <;> rfl), by repeat (first | (with_reducible first | exact HB.out | apply below_alloc | apply pw_below_drewN | apply below_drew1 | refine below_set ?_ GE259.out) | exact HB.out)⟩
   ·replace c7 := Bool.eq_false_iff.mpr c7
    subst c7
    have H1 : (if a0_0 > 1 then (fairleadref17_Right.j1 kj1 a0_0 a0_1 a0_2 a0_3 a0_4 a0_5 a0_6 a0_7 a0_8 a0_9 a0_10 a0_11 a0_12 a0_13 a0_14 a0_0 a0_1 a0_2 0 0 0 0 0 0 0 0 0 0 0 (⟨#[]⟩ : ByteArray)) else (fairleadref17_Right.j1 kj1 a0_0 a0_1 a0_2 a0_3 a0_4 a0_5 a0_6 a0_7 a0_8 a0_9 a0_10 a0_11 a0_12 a0_13 a0_14 a0_0 a0_1 0 0 0 0 0 0 0 0 0 0 0 0 (⟨#[]⟩ : ByteArray))) = some r := by rw [if_neg (show ¬ (false = true) by decide)] at H; exact H
    clear H
    have H := H1
    clear H1
    have HC8 := Aside0.mk H
    clear H
    have hcz9 := Mine.cells15 BK259.out
    have hfz9_0 := blk_frozen BK259.out
    go_upto_if 19 with (first | ((with_reducible refine gate_dst (N := 3) rfl ?_); (try (refine gate_guard (by rfl) ?_; dsimp only)); refine box_event ?hg (N := 3) ?hd (cs := #[.int .i64 0, .int .u64 0, .int .u64 0, .int .i64 0, .int .i64 0, .int .u32 0, .int .u32 0, .int .u64 0, .int .u64 0, .int .u64 0, .int .u64 0, .int .u64 0, .int .u64 0, .int .u64 0, .string (⟨#[]⟩ : ByteArray)]) (t := 28) ?hr ?_; (case hd => rfl); (case hg => rfl); (case hr => first | (go_simp; done) | (go_simp; rfl)); intro gb260 hg w10 hbox hb; have n0_ := Aside0.mk (blk_below (g := gb259) (o := .cells #[.int .i64 a0_0, .int .u64 a0_1, .int .u64 a0_2, .int .i64 a0_3, .int .i64 a0_4, .int .u32 a0_5, .int .u32 a0_6, .int .u64 a0_7, .int .u64 a0_8, .int .u64 a0_9, .int .u64 a0_10, .int .u64 a0_11, .int .u64 a0_12, .int .u64 a0_13, .string a0_14] 28 (0, 0)) (by (with_reducible repeat (first | refine blk_drewN ?_ _ | refine blk_drew ?_ | refine blk_alloc ?_ _)); exact BK259.out) hb); have n1_ := Aside0.mk (below_step (by repeat (first | (with_reducible first | exact HB.out | apply below_alloc | apply pw_below_drewN | apply below_drew1 | refine below_set ?_ GE259.out) | exact HB.out)) hb); have n2_ := Aside0.mk (hbox); have n3_ := Aside0.mk ((by rw [hg]; exact (below_size (by repeat (first | (with_reducible first | exact HB.out | apply below_alloc | apply pw_below_drewN | apply below_drew1 | refine below_set ?_ GE259.out) | exact HB.out))) : w.heap.size ≤ gb260)); have n4_ := Aside0.mk ((by rw [hg]; exact (below_size (by repeat (first | (with_reducible first | exact HB.out | apply below_alloc | apply pw_below_drewN | apply below_drew1 | refine below_set ?_ GE259.out) | exact HB.out))) : w.heap.size ≤ gb260)); have n5_ := Aside0.mk ((by rw [hg]; exact Nat.ne_of_lt (blk_lt (g := gb259) (o := .cells #[.int .i64 a0_0, .int .u64 a0_1, .int .u64 a0_2, .int .i64 a0_3, .int .i64 a0_4, .int .u32 a0_5, .int .u32 a0_6, .int .u64 a0_7, .int .u64 a0_8, .int .u64 a0_9, .int .u64 a0_10, .int .u64 a0_11, .int .u64 a0_12, .int .u64 a0_13, .string a0_14] 28 (0, 0)) (by (with_reducible repeat (first | refine blk_drewN ?_ _ | refine blk_drew ?_ | refine blk_alloc ?_ _)); exact BK259.out)) : gb259 ≠ gb260)); have n6_ := Aside0.mk ((by rw [hg]; exact Nat.ne_of_gt (blk_lt (g := gb259) (o := .cells #[.int .i64 a0_0, .int .u64 a0_1, .int .u64 a0_2, .int .i64 a0_3, .int .i64 a0_4, .int .u32 a0_5, .int .u32 a0_6, .int .u64 a0_7, .int .u64 a0_8, .int .u64 a0_9, .int .u64 a0_10, .int .u64 a0_11, .int .u64 a0_12, .int .u64 a0_13, .string a0_14] 28 (0, 0)) (by (with_reducible repeat (first | refine blk_drewN ?_ _ | refine blk_drew ?_ | refine blk_alloc ?_ _)); exact BK259.out)) : gb260 ≠ gb259)); clear BK259; clear HB; have BK259 := n0_; have HB := n1_; have BK260 := n2_; have GW260 := n3_; have GE260 := n4_; have NB259_260 := n5_; have NB260_259 := n6_; clear n0_ n1_ n2_ n3_ n4_ n5_ n6_; clear hb hbox hg; have hnb11 := NB260_259.out; have hnc11 := NB259_260.out; have hcz12 := Mine.cells15 BK260.out; have hfz12_0 := blk_frozen BK260.out; have hcz13 := Mine.cells15 BK259.out; have hfz13_0 := blk_frozen BK259.out))
    (try simp only [Act.put, List.setIfInBounds_toArray, List.set_cons_zero, List.set_cons_succ])
    go_cut [] (fun wc => ∃ (kq : Nat) (Zu : Int), Aside0 (fairleadref17_Right.j1 kq a0_0 a0_1 a0_2 a0_3 a0_4 a0_5 a0_6 a0_7 a0_8 a0_9 a0_10 a0_11 a0_12 a0_13 a0_14 a0_0 a0_1 Zu 0 0 0 0 0 0 0 0 0 0 0 (⟨#[]⟩ : ByteArray) = some r) ∧ Aside0 (kq ≤ kj1) ∧ Aside0 (wc.heap[gb259]? = some (.cells #[.int .i64 a0_0, .int .u64 a0_1, .int .u64 a0_2, .int .i64 a0_3, .int .i64 a0_4, .int .u32 a0_5, .int .u32 a0_6, .int .u64 a0_7, .int .u64 a0_8, .int .u64 a0_9, .int .u64 a0_10, .int .u64 a0_11, .int .u64 a0_12, .int .u64 a0_13, .string a0_14] 28 (0, 0))) ∧ Aside0 (wc.heap[gb260]? = some (.cells #[.int .i64 a0_0, .int .u64 a0_1, .int .u64 Zu, .int .i64 0, .int .i64 0, .int .u32 0, .int .u32 0, .int .u64 0, .int .u64 0, .int .u64 0, .int .u64 0, .int .u64 0, .int .u64 0, .int .u64 0, .string (⟨#[]⟩ : ByteArray)] 28 (0, 0))) ∧ Aside0 (Below w.heap.size w wc))
    case first =>
     have H := HC8.out
     clear HC8
     by_cases c14 : a0_0 > 1
     ·rw [if_pos c14] at H
      have c14b0 : decide (1 < a0_0) = true := decide_eq_true c14
      clear c14
      (first | rw [c14b0] | (simp only [i64_w, i32_w]; rw [c14b0]) | skip)
      have H' := Aside0.mk H
      clear H
      have hnb15 := NB259_260.out
      have hnc15 := NB260_259.out
      have hcz16 := Mine.cells15 BK259.out
      have hfz16_0 := blk_frozen BK259.out
      have hcz17 := Mine.cells15 BK260.out
      have hfz17_0 := blk_frozen BK260.out
      go_wp2
      go_meet
      case rel => exact ⟨_, (a0_2), H', ⟨by have := HJ1.out; first | omega | exact Nat.le_refl _⟩, ⟨by (with_reducible repeat (first | refine blk_drewN ?_ _ | refine blk_drew ?_ | refine blk_alloc ?_ _)); refine blk_far ?_ NB259_260.out _; (with_reducible repeat (first | refine blk_drewN ?_ _ | refine blk_drew ?_ | refine blk_alloc ?_ _)); refine blk_far ?_ NB259_260.out _; (with_reducible repeat (first | refine blk_drewN ?_ _ | refine blk_drew ?_ | refine blk_alloc ?_ _)); refine blk_far ?_ NB259_260.out _; (with_reducible repeat (first | refine blk_drewN ?_ _ | refine blk_drew ?_ | refine blk_alloc ?_ _)); refine blk_far ?_ NB259_260.out _; (with_reducible repeat (first | refine blk_drewN ?_ _ | refine blk_drew ?_ | refine blk_alloc ?_ _)); refine blk_far ?_ NB259_260.out _; (with_reducible repeat (first | refine blk_drewN ?_ _ | refine blk_drew ?_ | refine blk_alloc ?_ _)); refine blk_far ?_ NB259_260.out _; (with_reducible repeat (first | refine blk_drewN ?_ _ | refine blk_drew ?_ | refine blk_alloc ?_ _)); refine blk_far ?_ NB259_260.out _; (with_reducible repeat (first | refine blk_drewN ?_ _ | refine blk_drew ?_ | refine blk_alloc ?_ _)); refine blk_far ?_ NB259_260.out _; (with_reducible repeat (first | refine blk_drewN ?_ _ | refine blk_drew ?_ | refine blk_alloc ?_ _)); refine blk_far ?_ NB259_260.out _; (with_reducible repeat (first | refine blk_drewN ?_ _ | refine blk_drew ?_ | refine blk_alloc ?_ _)); refine blk_far ?_ NB259_260.out _; (with_reducible repeat (first | refine blk_drewN ?_ _ | refine blk_drew ?_ | refine blk_alloc ?_ _)); refine blk_far ?_ NB259_260.out _; (with_reducible repeat (first | refine blk_drewN ?_ _ | refine blk_drew ?_ | refine blk_alloc ?_ _)); refine blk_far ?_ NB259_260.out _; (with_reducible repeat (first | refine blk_drewN ?_ _ | refine blk_drew ?_ | refine blk_alloc ?_ _)); refine blk_far ?_ NB259_260.out _; (with_reducible repeat (first | refine blk_drewN ?_ _ | refine blk_drew ?_ | refine blk_alloc ?_ _)); refine blk_far ?_ NB259_260.out _; (with_reducible repeat (first | refine blk_drewN ?_ _ | refine blk_drew ?_ | refine blk_alloc ?_ _)); refine blk_far ?_ NB259_260.out _; (with_reducible repeat (first | refine blk_drewN ?_ _ | refine blk_drew ?_ | refine blk_alloc ?_ _)); refine blk_far ?_ NB259_260.out _; (with_reducible repeat (first | refine blk_drewN ?_ _ | refine blk_drew ?_ | refine blk_alloc ?_ _)); exact BK259.out⟩, ⟨by (with_reducible repeat (first | refine blk_drewN ?_ _ | refine blk_drew ?_ | refine blk_alloc ?_ _)); refine blk_put (cs := #[.int .i64 a0_0, .int .u64 a0_1, .int .u64 0, .int .i64 0, .int .i64 0, .int .u32 0, .int .u32 0, .int .u64 0, .int .u64 0, .int .u64 0, .int .u64 0, .int .u64 0, .int .u64 0, .int .u64 0, .string (⟨#[]⟩ : ByteArray)]) ?_ 2 _ rfl; (with_reducible repeat (first | refine blk_drewN ?_ _ | refine blk_drew ?_ | refine blk_alloc ?_ _)); refine blk_put (cs := #[.int .i64 a0_0, .int .u64 a0_1, .int .u64 0, .int .i64 0, .int .i64 0, .int .u32 0, .int .u32 0, .int .u64 0, .int .u64 0, .int .u64 0, .int .u64 0, .int .u64 0, .int .u64 0, .int .u64 0, .string (⟨#[]⟩ : ByteArray)]) ?_ 14 _ rfl; (with_reducible repeat (first | refine blk_drewN ?_ _ | refine blk_drew ?_ | refine blk_alloc ?_ _)); refine blk_put (cs := #[.int .i64 a0_0, .int .u64 a0_1, .int .u64 0, .int .i64 0, .int .i64 0, .int .u32 0, .int .u32 0, .int .u64 0, .int .u64 0, .int .u64 0, .int .u64 0, .int .u64 0, .int .u64 0, .int .u64 0, .string (⟨#[]⟩ : ByteArray)]) ?_ 13 _ rfl; (with_reducible repeat (first | refine blk_drewN ?_ _ | refine blk_drew ?_ | refine blk_alloc ?_ _)); refine blk_put (cs := #[.int .i64 a0_0, .int .u64 a0_1, .int .u64 0, .int .i64 0, .int .i64 0, .int .u32 0, .int .u32 0, .int .u64 0, .int .u64 0, .int .u64 0, .int .u64 0, .int .u64 0, .int .u64 0, .int .u64 0, .string (⟨#[]⟩ : ByteArray)]) ?_ 12 _ rfl; (with_reducible repeat (first | refine blk_drewN ?_ _ | refine blk_drew ?_ | refine blk_alloc ?_ _)); refine blk_put (cs := #[.int .i64 a0_0, .int .u64 a0_1, .int .u64 0, .int .i64 0, .int .i64 0, .int .u32 0, .int .u32 0, .int .u64 0, .int .u64 0, .int .u64 0, .int .u64 0, .int .u64 0, .int .u64 0, .int .u64 0, .string (⟨#[]⟩ : ByteArray)]) ?_ 11 _ rfl; (with_reducible repeat (first | refine blk_drewN ?_ _ | refine blk_drew ?_ | refine blk_alloc ?_ _)); refine blk_put (cs := #[.int .i64 a0_0, .int .u64 a0_1, .int .u64 0, .int .i64 0, .int .i64 0, .int .u32 0, .int .u32 0, .int .u64 0, .int .u64 0, .int .u64 0, .int .u64 0, .int .u64 0, .int .u64 0, .int .u64 0, .string (⟨#[]⟩ : ByteArray)]) ?_ 10 _ rfl; (with_reducible repeat (first | refine blk_drewN ?_ _ | refine blk_drew ?_ | refine blk_alloc ?_ _)); refine blk_put (cs := #[.int .i64 a0_0, .int .u64 a0_1, .int .u64 0, .int .i64 0, .int .i64 0, .int .u32 0, .int .u32 0, .int .u64 0, .int .u64 0, .int .u64 0, .int .u64 0, .int .u64 0, .int .u64 0, .int .u64 0, .string (⟨#[]⟩ : ByteArray)]) ?_ 9 _ rfl; (with_reducible repeat (first | refine blk_drewN ?_ _ | refine blk_drew ?_ | refine blk_alloc ?_ _)); refine blk_put (cs := #[.int .i64 a0_0, .int .u64 a0_1, .int .u64 0, .int .i64 0, .int .i64 0, .int .u32 0, .int .u32 0, .int .u64 0, .int .u64 0, .int .u64 0, .int .u64 0, .int .u64 0, .int .u64 0, .int .u64 0, .string (⟨#[]⟩ : ByteArray)]) ?_ 8 _ rfl; (with_reducible repeat (first | refine blk_drewN ?_ _ | refine blk_drew ?_ | refine blk_alloc ?_ _)); refine blk_put (cs := #[.int .i64 a0_0, .int .u64 a0_1, .int .u64 0, .int .i64 0, .int .i64 0, .int .u32 0, .int .u32 0, .int .u64 0, .int .u64 0, .int .u64 0, .int .u64 0, .int .u64 0, .int .u64 0, .int .u64 0, .string (⟨#[]⟩ : ByteArray)]) ?_ 7 _ rfl; (with_reducible repeat (first | refine blk_drewN ?_ _ | refine blk_drew ?_ | refine blk_alloc ?_ _)); refine blk_put (cs := #[.int .i64 a0_0, .int .u64 a0_1, .int .u64 0, .int .i64 0, .int .i64 0, .int .u32 0, .int .u32 0, .int .u64 0, .int .u64 0, .int .u64 0, .int .u64 0, .int .u64 0, .int .u64 0, .int .u64 0, .string (⟨#[]⟩ : ByteArray)]) ?_ 6 _ rfl; (with_reducible repeat (first | refine blk_drewN ?_ _ | refine blk_drew ?_ | refine blk_alloc ?_ _)); refine blk_put (cs := #[.int .i64 a0_0, .int .u64 a0_1, .int .u64 0, .int .i64 0, .int .i64 0, .int .u32 0, .int .u32 0, .int .u64 0, .int .u64 0, .int .u64 0, .int .u64 0, .int .u64 0, .int .u64 0, .int .u64 0, .string (⟨#[]⟩ : ByteArray)]) ?_ 5 _ rfl; (with_reducible repeat (first | refine blk_drewN ?_ _ | refine blk_drew ?_ | refine blk_alloc ?_ _)); refine blk_put (cs := #[.int .i64 a0_0, .int .u64 a0_1, .int .u64 0, .int .i64 0, .int .i64 0, .int .u32 0, .int .u32 0, .int .u64 0, .int .u64 0, .int .u64 0, .int .u64 0, .int .u64 0, .int .u64 0, .int .u64 0, .string (⟨#[]⟩ : ByteArray)]) ?_ 4 _ rfl; (with_reducible repeat (first | refine blk_drewN ?_ _ | refine blk_drew ?_ | refine blk_alloc ?_ _)); refine blk_put (cs := #[.int .i64 a0_0, .int .u64 a0_1, .int .u64 0, .int .i64 0, .int .i64 0, .int .u32 0, .int .u32 0, .int .u64 0, .int .u64 0, .int .u64 0, .int .u64 0, .int .u64 0, .int .u64 0, .int .u64 0, .string (⟨#[]⟩ : ByteArray)]) ?_ 3 _ rfl; (with_reducible repeat (first | refine blk_drewN ?_ _ | refine blk_drew ?_ | refine blk_alloc ?_ _)); refine blk_put (cs := #[.int .i64 a0_0, .int .u64 a0_1, .int .u64 0, .int .i64 0, .int .i64 0, .int .u32 0, .int .u32 0, .int .u64 0, .int .u64 0, .int .u64 0, .int .u64 0, .int .u64 0, .int .u64 0, .int .u64 0, .string (⟨#[]⟩ : ByteArray)]) ?_ 2 _ rfl; (with_reducible repeat (first | refine blk_drewN ?_ _ | refine blk_drew ?_ | refine blk_alloc ?_ _)); refine blk_put (cs := #[.int .i64 a0_0, .int .u64 0, .int .u64 0, .int .i64 0, .int .i64 0, .int .u32 0, .int .u32 0, .int .u64 0, .int .u64 0, .int .u64 0, .int .u64 0, .int .u64 0, .int .u64 0, .int .u64 0, .string (⟨#[]⟩ : ByteArray)]) ?_ 1 _ rfl; (with_reducible repeat (first | refine blk_drewN ?_ _ | refine blk_drew ?_ | refine blk_alloc ?_ _)); refine blk_put (cs := #[.int .i64 0, .int .u64 0, .int .u64 0, .int .i64 0, .int .i64 0, .int .u32 0, .int .u32 0, .int .u64 0, .int .u64 0, .int .u64 0, .int .u64 0, .int .u64 0, .int .u64 0, .int .u64 0, .string (⟨#[]⟩ : ByteArray)]) ?_ 0 _ rfl; (with_reducible repeat (first | refine blk_drewN ?_ _ | refine blk_drew ?_ | refine blk_alloc ?_ _)); exact BK260.out⟩, ⟨by repeat (first | (with_reducible first | exact HB.out | apply below_alloc | apply pw_below_drewN | apply below_drew1 | refine below_set ?_ GE259.out | refine below_set ?_ GE260.out) | exact HB.out)⟩⟩
     ·rw [if_neg c14] at H
      have c14b0 : decide (1 < a0_0) = false := decide_eq_false c14
      clear c14
      (first | rw [c14b0] | (simp only [i64_w, i32_w]; rw [c14b0]) | skip)
      have H' := Aside0.mk H
      clear H
      go_wp2
      go_meet
      case rel => exact ⟨_, (0), H', ⟨by have := HJ1.out; first | omega | exact Nat.le_refl _⟩, ⟨by (with_reducible repeat (first | refine blk_drewN ?_ _ | refine blk_drew ?_ | refine blk_alloc ?_ _)); refine blk_far ?_ NB259_260.out _; (with_reducible repeat (first | refine blk_drewN ?_ _ | refine blk_drew ?_ | refine blk_alloc ?_ _)); refine blk_far ?_ NB259_260.out _; (with_reducible repeat (first | refine blk_drewN ?_ _ | refine blk_drew ?_ | refine blk_alloc ?_ _)); refine blk_far ?_ NB259_260.out _; (with_reducible repeat (first | refine blk_drewN ?_ _ | refine blk_drew ?_ | refine blk_alloc ?_ _)); refine blk_far ?_ NB259_260.out _; (with_reducible repeat (first | refine blk_drewN ?_ _ | refine blk_drew ?_ | refine blk_alloc ?_ _)); refine blk_far ?_ NB259_260.out _; (with_reducible repeat (first | refine blk_drewN ?_ _ | refine blk_drew ?_ | refine blk_alloc ?_ _)); refine blk_far ?_ NB259_260.out _; (with_reducible repeat (first | refine blk_drewN ?_ _ | refine blk_drew ?_ | refine blk_alloc ?_ _)); refine blk_far ?_ NB259_260.out _; (with_reducible repeat (first | refine blk_drewN ?_ _ | refine blk_drew ?_ | refine blk_alloc ?_ _)); refine blk_far ?_ NB259_260.out _; (with_reducible repeat (first | refine blk_drewN ?_ _ | refine blk_drew ?_ | refine blk_alloc ?_ _)); refine blk_far ?_ NB259_260.out _; (with_reducible repeat (first | refine blk_drewN ?_ _ | refine blk_drew ?_ | refine blk_alloc ?_ _)); refine blk_far ?_ NB259_260.out _; (with_reducible repeat (first | refine blk_drewN ?_ _ | refine blk_drew ?_ | refine blk_alloc ?_ _)); refine blk_far ?_ NB259_260.out _; (with_reducible repeat (first | refine blk_drewN ?_ _ | refine blk_drew ?_ | refine blk_alloc ?_ _)); refine blk_far ?_ NB259_260.out _; (with_reducible repeat (first | refine blk_drewN ?_ _ | refine blk_drew ?_ | refine blk_alloc ?_ _)); refine blk_far ?_ NB259_260.out _; (with_reducible repeat (first | refine blk_drewN ?_ _ | refine blk_drew ?_ | refine blk_alloc ?_ _)); refine blk_far ?_ NB259_260.out _; (with_reducible repeat (first | refine blk_drewN ?_ _ | refine blk_drew ?_ | refine blk_alloc ?_ _)); refine blk_far ?_ NB259_260.out _; (with_reducible repeat (first | refine blk_drewN ?_ _ | refine blk_drew ?_ | refine blk_alloc ?_ _)); exact BK259.out⟩, ⟨by (with_reducible repeat (first | refine blk_drewN ?_ _ | refine blk_drew ?_ | refine blk_alloc ?_ _)); refine blk_put (cs := #[.int .i64 a0_0, .int .u64 a0_1, .int .u64 0, .int .i64 0, .int .i64 0, .int .u32 0, .int .u32 0, .int .u64 0, .int .u64 0, .int .u64 0, .int .u64 0, .int .u64 0, .int .u64 0, .int .u64 0, .string (⟨#[]⟩ : ByteArray)]) ?_ 14 _ rfl; (with_reducible repeat (first | refine blk_drewN ?_ _ | refine blk_drew ?_ | refine blk_alloc ?_ _)); refine blk_put (cs := #[.int .i64 a0_0, .int .u64 a0_1, .int .u64 0, .int .i64 0, .int .i64 0, .int .u32 0, .int .u32 0, .int .u64 0, .int .u64 0, .int .u64 0, .int .u64 0, .int .u64 0, .int .u64 0, .int .u64 0, .string (⟨#[]⟩ : ByteArray)]) ?_ 13 _ rfl; (with_reducible repeat (first | refine blk_drewN ?_ _ | refine blk_drew ?_ | refine blk_alloc ?_ _)); refine blk_put (cs := #[.int .i64 a0_0, .int .u64 a0_1, .int .u64 0, .int .i64 0, .int .i64 0, .int .u32 0, .int .u32 0, .int .u64 0, .int .u64 0, .int .u64 0, .int .u64 0, .int .u64 0, .int .u64 0, .int .u64 0, .string (⟨#[]⟩ : ByteArray)]) ?_ 12 _ rfl; (with_reducible repeat (first | refine blk_drewN ?_ _ | refine blk_drew ?_ | refine blk_alloc ?_ _)); refine blk_put (cs := #[.int .i64 a0_0, .int .u64 a0_1, .int .u64 0, .int .i64 0, .int .i64 0, .int .u32 0, .int .u32 0, .int .u64 0, .int .u64 0, .int .u64 0, .int .u64 0, .int .u64 0, .int .u64 0, .int .u64 0, .string (⟨#[]⟩ : ByteArray)]) ?_ 11 _ rfl; (with_reducible repeat (first | refine blk_drewN ?_ _ | refine blk_drew ?_ | refine blk_alloc ?_ _)); refine blk_put (cs := #[.int .i64 a0_0, .int .u64 a0_1, .int .u64 0, .int .i64 0, .int .i64 0, .int .u32 0, .int .u32 0, .int .u64 0, .int .u64 0, .int .u64 0, .int .u64 0, .int .u64 0, .int .u64 0, .int .u64 0, .string (⟨#[]⟩ : ByteArray)]) ?_ 10 _ rfl; (with_reducible repeat (first | refine blk_drewN ?_ _ | refine blk_drew ?_ | refine blk_alloc ?_ _)); refine blk_put (cs := #[.int .i64 a0_0, .int .u64 a0_1, .int .u64 0, .int .i64 0, .int .i64 0, .int .u32 0, .int .u32 0, .int .u64 0, .int .u64 0, .int .u64 0, .int .u64 0, .int .u64 0, .int .u64 0, .int .u64 0, .string (⟨#[]⟩ : ByteArray)]) ?_ 9 _ rfl; (with_reducible repeat (first | refine blk_drewN ?_ _ | refine blk_drew ?_ | refine blk_alloc ?_ _)); refine blk_put (cs := #[.int .i64 a0_0, .int .u64 a0_1, .int .u64 0, .int .i64 0, .int .i64 0, .int .u32 0, .int .u32 0, .int .u64 0, .int .u64 0, .int .u64 0, .int .u64 0, .int .u64 0, .int .u64 0, .int .u64 0, .string (⟨#[]⟩ : ByteArray)]) ?_ 8 _ rfl; (with_reducible repeat (first | refine blk_drewN ?_ _ | refine blk_drew ?_ | refine blk_alloc ?_ _)); refine blk_put (cs := #[.int .i64 a0_0, .int .u64 a0_1, .int .u64 0, .int .i64 0, .int .i64 0, .int .u32 0, .int .u32 0, .int .u64 0, .int .u64 0, .int .u64 0, .int .u64 0, .int .u64 0, .int .u64 0, .int .u64 0, .string (⟨#[]⟩ : ByteArray)]) ?_ 7 _ rfl; (with_reducible repeat (first | refine blk_drewN ?_ _ | refine blk_drew ?_ | refine blk_alloc ?_ _)); refine blk_put (cs := #[.int .i64 a0_0, .int .u64 a0_1, .int .u64 0, .int .i64 0, .int .i64 0, .int .u32 0, .int .u32 0, .int .u64 0, .int .u64 0, .int .u64 0, .int .u64 0, .int .u64 0, .int .u64 0, .int .u64 0, .string (⟨#[]⟩ : ByteArray)]) ?_ 6 _ rfl; (with_reducible repeat (first | refine blk_drewN ?_ _ | refine blk_drew ?_ | refine blk_alloc ?_ _)); refine blk_put (cs := #[.int .i64 a0_0, .int .u64 a0_1, .int .u64 0, .int .i64 0, .int .i64 0, .int .u32 0, .int .u32 0, .int .u64 0, .int .u64 0, .int .u64 0, .int .u64 0, .int .u64 0, .int .u64 0, .int .u64 0, .string (⟨#[]⟩ : ByteArray)]) ?_ 5 _ rfl; (with_reducible repeat (first | refine blk_drewN ?_ _ | refine blk_drew ?_ | refine blk_alloc ?_ _)); refine blk_put (cs := #[.int .i64 a0_0, .int .u64 a0_1, .int .u64 0, .int .i64 0, .int .i64 0, .int .u32 0, .int .u32 0, .int .u64 0, .int .u64 0, .int .u64 0, .int .u64 0, .int .u64 0, .int .u64 0, .int .u64 0, .string (⟨#[]⟩ : ByteArray)]) ?_ 4 _ rfl; (with_reducible repeat (first | refine blk_drewN ?_ _ | refine blk_drew ?_ | refine blk_alloc ?_ _)); refine blk_put (cs := #[.int .i64 a0_0, .int .u64 a0_1, .int .u64 0, .int .i64 0, .int .i64 0, .int .u32 0, .int .u32 0, .int .u64 0, .int .u64 0, .int .u64 0, .int .u64 0, .int .u64 0, .int .u64 0, .int .u64 0, .string (⟨#[]⟩ : ByteArray)]) ?_ 3 _ rfl; (with_reducible repeat (first | refine blk_drewN ?_ _ | refine blk_drew ?_ | refine blk_alloc ?_ _)); refine blk_put (cs := #[.int .i64 a0_0, .int .u64 a0_1, .int .u64 0, .int .i64 0, .int .i64 0, .int .u32 0, .int .u32 0, .int .u64 0, .int .u64 0, .int .u64 0, .int .u64 0, .int .u64 0, .int .u64 0, .int .u64 0, .string (⟨#[]⟩ : ByteArray)]) ?_ 2 _ rfl; (with_reducible repeat (first | refine blk_drewN ?_ _ | refine blk_drew ?_ | refine blk_alloc ?_ _)); refine blk_put (cs := #[.int .i64 a0_0, .int .u64 0, .int .u64 0, .int .i64 0, .int .i64 0, .int .u32 0, .int .u32 0, .int .u64 0, .int .u64 0, .int .u64 0, .int .u64 0, .int .u64 0, .int .u64 0, .int .u64 0, .string (⟨#[]⟩ : ByteArray)]) ?_ 1 _ rfl; (with_reducible repeat (first | refine blk_drewN ?_ _ | refine blk_drew ?_ | refine blk_alloc ?_ _)); refine blk_put (cs := #[.int .i64 0, .int .u64 0, .int .u64 0, .int .i64 0, .int .i64 0, .int .u32 0, .int .u32 0, .int .u64 0, .int .u64 0, .int .u64 0, .int .u64 0, .int .u64 0, .int .u64 0, .int .u64 0, .string (⟨#[]⟩ : ByteArray)]) ?_ 0 _ rfl; (with_reducible repeat (first | refine blk_drewN ?_ _ | refine blk_drew ?_ | refine blk_alloc ?_ _)); exact BK260.out⟩, ⟨by repeat (first | (with_reducible first | exact HB.out | apply below_alloc | apply pw_below_drewN | apply below_drew1 | refine below_set ?_ GE259.out | refine below_set ?_ GE260.out) | exact HB.out)⟩⟩
    case rest =>
     clear HC8
     try clear c1
     try clear p2
     try clear c4
     try clear c4b0
     try clear c7
     try clear c11
     try clear c12
     try clear c14
     try clear c14b0
     try clear c15
     try clear hcz12
     try clear hcz13
     try clear hcz16
     try clear hcz17
     try clear hcz5
     try clear hcz6
     try clear hcz9
     try clear hfz12_0
     try clear hfz13_0
     try clear hfz16_0
     try clear hfz17_0
     try clear hfz5_0
     try clear hfz6_0
     try clear hfz9_0
     try clear p2
     obtain ⟨kq, Zu, HA, HJ7, BK259, BK260, HB⟩ := hcut
     cases kq with
     | zero => exact absurd HA.out (by simp [fairleadref17_Right.j1])
     | succ kj7 =>
      have H := HA.out
      clear HA
      simp only [fairleadref17_Right.j1] at H
      have HC18 := Aside0.mk H
      clear H
      have hnb19 := NB259_260.out
      have hnc19 := NB260_259.out
      have hcz20 := Mine.cells15 BK259.out
      have hfz20_0 := blk_frozen BK259.out
      go_upto_if 25 with (fail)
      go_cut [] (fun wc => ∃ (kq : Nat) (Zv : Int) (Zw : Int) (Zx : Int) (Zy : Int) (Zz : Int) (Z10 : Int) (Z11 : Int) (Z12 : Int) (Z13 : Int) (Z14 : Int) (Z15 : ByteArray), Aside0 (fairleadref17_Right.j2 kq a0_0 a0_1 a0_2 a0_3 a0_4 a0_5 a0_6 a0_7 a0_8 a0_9 a0_10 a0_11 a0_12 a0_13 a0_14 a0_0 a0_1 Zu Zv 0 Zw Zx Zy Zz Z10 Z11 Z12 Z13 Z14 Z15 = some r) ∧ Aside0 (kq ≤ kj7) ∧ Aside0 (wc.heap[gb259]? = some (.cells #[.int .i64 a0_0, .int .u64 a0_1, .int .u64 a0_2, .int .i64 a0_3, .int .i64 a0_4, .int .u32 a0_5, .int .u32 a0_6, .int .u64 a0_7, .int .u64 a0_8, .int .u64 a0_9, .int .u64 a0_10, .int .u64 a0_11, .int .u64 a0_12, .int .u64 a0_13, .string a0_14] 28 (0, 0))) ∧ Aside0 (wc.heap[gb260]? = some (.cells #[.int .i64 a0_0, .int .u64 a0_1, .int .u64 Zu, .int .i64 Zv, .int .i64 0, .int .u32 Zw, .int .u32 Zx, .int .u64 Zy, .int .u64 Zz, .int .u64 Z10, .int .u64 Z11, .int .u64 Z12, .int .u64 Z13, .int .u64 Z14, .string Z15] 28 (0, 0))) ∧ Aside0 (Below w.heap.size w wc))
      case first =>
       have H := HC18.out
       clear HC18
       by_cases c21 : a0_0 = 2
       ·rw [if_pos c21] at H
        have c21b0 : (a0_0 == 2) = true := beq_iff_eq.mpr c21
        have c21b1 : (a0_0 != 2) = false := bne_eq_false_iff_eq.mpr c21
        clear c21
        (first | rw [c21b0] | (simp only [i64_w, i32_w]; rw [c21b0]) | skip)
        by_cases c22 : a0_3 < 1
        ·rw [if_pos c22] at H
         have c22b0 : decide (a0_3 < 1) = true := decide_eq_true c22
         clear c22
         obtain rfl := Option.some.inj H
         have hnb23 := NB259_260.out
         have hnc23 := NB260_259.out
         have hcz24 := Mine.cells15 BK259.out
         have hfz24_0 := blk_frozen BK259.out
         have hcz25 := Mine.cells15 BK260.out
         have hfz25_0 := blk_frozen BK260.out
         go_wp2
         go_ret
         exact ⟨by first | rfl | (simp [errW_none, errW_some] <;> rfl) | (simp [*, errW_none, errW_some] <;> rfl), by repeat (first | (with_reducible first | exact HB.out | apply below_alloc | apply pw_below_drewN | apply below_drew1 | refine below_set ?_ GE259.out | refine below_set ?_ GE260.out) | exact HB.out)⟩
        ·rw [if_neg c22] at H
         have c22b0 : decide (a0_3 < 1) = false := decide_eq_false c22
         clear c22
         by_cases c26 : a0_3 > 4
         ·rw [if_pos c26] at H
          have c26b0 : decide (4 < a0_3) = true := decide_eq_true c26
          clear c26
          obtain rfl := Option.some.inj H
          have hnb27 := NB259_260.out
          have hnc27 := NB260_259.out
          have hcz28 := Mine.cells15 BK259.out
          have hfz28_0 := blk_frozen BK259.out
          have hcz29 := Mine.cells15 BK260.out
          have hfz29_0 := blk_frozen BK260.out
          go_wp2
          go_ret
          exact ⟨by first | rfl | (simp [errW_none, errW_some] <;> rfl) | (simp [*, errW_none, errW_some] <;> rfl), by repeat (first | (with_reducible first | exact HB.out | apply below_alloc | apply pw_below_drewN | apply below_drew1 | refine below_set ?_ GE259.out | refine below_set ?_ GE260.out) | exact HB.out)⟩
         ·rw [if_neg c26] at H
          have c26b0 : decide (4 < a0_3) = false := decide_eq_false c26
          clear c26
          by_cases c30 : (a0_14.size : Int) > 256
          ·rw [if_pos c30] at H
           have c30b0 : decide (256 < (a0_14.size : Int)) = true := decide_eq_true c30
           have c30b1 : decide (256 < a0_14.size) = true := decide_eq_true (by omega)
           clear c30
           obtain rfl := Option.some.inj H
           have hnb31 := NB259_260.out
           have hnc31 := NB260_259.out
           have hcz32 := Mine.cells15 BK259.out
           have hfz32_0 := blk_frozen BK259.out
           have hcz33 := Mine.cells15 BK260.out
           have hfz33_0 := blk_frozen BK260.out
           go_wp2
           go_ret
           exact ⟨by first | rfl | (simp [errW_none, errW_some] <;> rfl) | (simp [*, errW_none, errW_some] <;> rfl), by repeat (first | (with_reducible first | exact HB.out | apply below_alloc | apply pw_below_drewN | apply below_drew1 | refine below_set ?_ GE259.out | refine below_set ?_ GE260.out) | exact HB.out)⟩
          ·rw [if_neg c30] at H
           have c30b0 : decide (256 < (a0_14.size : Int)) = false := decide_eq_false c30
           have c30b1 : decide (256 < a0_14.size) = false := decide_eq_false (by omega)
           clear c30
           have H' := Aside0.mk H
           clear H
           have hnb34 := NB259_260.out
           have hnc34 := NB260_259.out
           have hcz35 := Mine.cells15 BK259.out
           have hfz35_0 := blk_frozen BK259.out
           have hcz36 := Mine.cells15 BK260.out
           have hfz36_0 := blk_frozen BK260.out
           go_wp2
           go_meet
           case rel => exact ⟨_, (a0_3), (a0_5), (a0_6), (a0_7), (a0_8), (a0_9), (a0_10), (a0_11), (a0_12), (a0_13), (a0_14), H', ⟨by have := HJ1.out; have := HJ7.out; first | omega | exact Nat.le_refl _⟩, ⟨by (with_reducible repeat (first | refine blk_drewN ?_ _ | refine blk_drew ?_ | refine blk_alloc ?_ _)); refine blk_far ?_ NB259_260.out _; (with_reducible repeat (first | refine blk_drewN ?_ _ | refine blk_drew ?_ | refine blk_alloc ?_ _)); refine blk_far ?_ NB259_260.out _; (with_reducible repeat (first | refine blk_drewN ?_ _ | refine blk_drew ?_ | refine blk_alloc ?_ _)); refine blk_far ?_ NB259_260.out _; (with_reducible repeat (first | refine blk_drewN ?_ _ | refine blk_drew ?_ | refine blk_alloc ?_ _)); refine blk_far ?_ NB259_260.out _; (with_reducible repeat (first | refine blk_drewN ?_ _ | refine blk_drew ?_ | refine blk_alloc ?_ _)); refine blk_far ?_ NB259_260.out _; (with_reducible repeat (first | refine blk_drewN ?_ _ | refine blk_drew ?_ | refine blk_alloc ?_ _)); refine blk_far ?_ NB259_260.out _; (with_reducible repeat (first | refine blk_drewN ?_ _ | refine blk_drew ?_ | refine blk_alloc ?_ _)); refine blk_far ?_ NB259_260.out _; (with_reducible repeat (first | refine blk_drewN ?_ _ | refine blk_drew ?_ | refine blk_alloc ?_ _)); refine blk_far ?_ NB259_260.out _; (with_reducible repeat (first | refine blk_drewN ?_ _ | refine blk_drew ?_ | refine blk_alloc ?_ _)); refine blk_far ?_ NB259_260.out _; (with_reducible repeat (first | refine blk_drewN ?_ _ | refine blk_drew ?_ | refine blk_alloc ?_ _)); refine blk_far ?_ NB259_260.out _; (with_reducible repeat (first | refine blk_drewN ?_ _ | refine blk_drew ?_ | refine blk_alloc ?_ _)); refine blk_far ?_ NB259_260.out _; (with_reducible repeat (first | refine blk_drewN ?_ _ | refine blk_drew ?_ | refine blk_alloc ?_ _)); exact BK259.out⟩, ⟨by (with_reducible repeat (first | refine blk_drewN ?_ _ | refine blk_drew ?_ | refine blk_alloc ?_ _)); refine blk_put (cs := #[.int .i64 a0_0, .int .u64 a0_1, .int .u64 Zu, .int .i64 a0_3, .int .i64 0, .int .u32 a0_5, .int .u32 a0_6, .int .u64 a0_7, .int .u64 a0_8, .int .u64 a0_9, .int .u64 a0_10, .int .u64 a0_11, .int .u64 a0_12, .int .u64 a0_13, .string (⟨#[]⟩ : ByteArray)]) ?_ 14 _ rfl; (with_reducible repeat (first | refine blk_drewN ?_ _ | refine blk_drew ?_ | refine blk_alloc ?_ _)); refine blk_put (cs := #[.int .i64 a0_0, .int .u64 a0_1, .int .u64 Zu, .int .i64 a0_3, .int .i64 0, .int .u32 a0_5, .int .u32 a0_6, .int .u64 a0_7, .int .u64 a0_8, .int .u64 a0_9, .int .u64 a0_10, .int .u64 a0_11, .int .u64 a0_12, .int .u64 0, .string (⟨#[]⟩ : ByteArray)]) ?_ 13 _ rfl; (with_reducible repeat (first | refine blk_drewN ?_ _ | refine blk_drew ?_ | refine blk_alloc ?_ _)); refine blk_put (cs := #[.int .i64 a0_0, .int .u64 a0_1, .int .u64 Zu, .int .i64 a0_3, .int .i64 0, .int .u32 a0_5, .int .u32 a0_6, .int .u64 a0_7, .int .u64 a0_8, .int .u64 a0_9, .int .u64 a0_10, .int .u64 a0_11, .int .u64 0, .int .u64 0, .string (⟨#[]⟩ : ByteArray)]) ?_ 12 _ rfl; (with_reducible repeat (first | refine blk_drewN ?_ _ | refine blk_drew ?_ | refine blk_alloc ?_ _)); refine blk_put (cs := #[.int .i64 a0_0, .int .u64 a0_1, .int .u64 Zu, .int .i64 a0_3, .int .i64 0, .int .u32 a0_5, .int .u32 a0_6, .int .u64 a0_7, .int .u64 a0_8, .int .u64 a0_9, .int .u64 a0_10, .int .u64 0, .int .u64 0, .int .u64 0, .string (⟨#[]⟩ : ByteArray)]) ?_ 11 _ rfl; (with_reducible repeat (first | refine blk_drewN ?_ _ | refine blk_drew ?_ | refine blk_alloc ?_ _)); refine blk_put (cs := #[.int .i64 a0_0, .int .u64 a0_1, .int .u64 Zu, .int .i64 a0_3, .int .i64 0, .int .u32 a0_5, .int .u32 a0_6, .int .u64 a0_7, .int .u64 a0_8, .int .u64 a0_9, .int .u64 0, .int .u64 0, .int .u64 0, .int .u64 0, .string (⟨#[]⟩ : ByteArray)]) ?_ 10 _ rfl; (with_reducible repeat (first | refine blk_drewN ?_ _ | refine blk_drew ?_ | refine blk_alloc ?_ _)); refine blk_put (cs := #[.int .i64 a0_0, .int .u64 a0_1, .int .u64 Zu, .int .i64 a0_3, .int .i64 0, .int .u32 a0_5, .int .u32 a0_6, .int .u64 a0_7, .int .u64 a0_8, .int .u64 0, .int .u64 0, .int .u64 0, .int .u64 0, .int .u64 0, .string (⟨#[]⟩ : ByteArray)]) ?_ 9 _ rfl; (with_reducible repeat (first | refine blk_drewN ?_ _ | refine blk_drew ?_ | refine blk_alloc ?_ _)); refine blk_put (cs := #[.int .i64 a0_0, .int .u64 a0_1, .int .u64 Zu, .int .i64 a0_3, .int .i64 0, .int .u32 a0_5, .int .u32 a0_6, .int .u64 a0_7, .int .u64 0, .int .u64 0, .int .u64 0, .int .u64 0, .int .u64 0, .int .u64 0, .string (⟨#[]⟩ : ByteArray)]) ?_ 8 _ rfl; (with_reducible repeat (first | refine blk_drewN ?_ _ | refine blk_drew ?_ | refine blk_alloc ?_ _)); refine blk_put (cs := #[.int .i64 a0_0, .int .u64 a0_1, .int .u64 Zu, .int .i64 a0_3, .int .i64 0, .int .u32 a0_5, .int .u32 a0_6, .int .u64 0, .int .u64 0, .int .u64 0, .int .u64 0, .int .u64 0, .int .u64 0, .int .u64 0, .string (⟨#[]⟩ : ByteArray)]) ?_ 7 _ rfl; (with_reducible repeat (first | refine blk_drewN ?_ _ | refine blk_drew ?_ | refine blk_alloc ?_ _)); refine blk_put (cs := #[.int .i64 a0_0, .int .u64 a0_1, .int .u64 Zu, .int .i64 a0_3, .int .i64 0, .int .u32 a0_5, .int .u32 0, .int .u64 0, .int .u64 0, .int .u64 0, .int .u64 0, .int .u64 0, .int .u64 0, .int .u64 0, .string (⟨#[]⟩ : ByteArray)]) ?_ 6 _ rfl; (with_reducible repeat (first | refine blk_drewN ?_ _ | refine blk_drew ?_ | refine blk_alloc ?_ _)); refine blk_put (cs := #[.int .i64 a0_0, .int .u64 a0_1, .int .u64 Zu, .int .i64 a0_3, .int .i64 0, .int .u32 0, .int .u32 0, .int .u64 0, .int .u64 0, .int .u64 0, .int .u64 0, .int .u64 0, .int .u64 0, .int .u64 0, .string (⟨#[]⟩ : ByteArray)]) ?_ 5 _ rfl; (with_reducible repeat (first | refine blk_drewN ?_ _ | refine blk_drew ?_ | refine blk_alloc ?_ _)); refine blk_put (cs := #[.int .i64 a0_0, .int .u64 a0_1, .int .u64 Zu, .int .i64 0, .int .i64 0, .int .u32 0, .int .u32 0, .int .u64 0, .int .u64 0, .int .u64 0, .int .u64 0, .int .u64 0, .int .u64 0, .int .u64 0, .string (⟨#[]⟩ : ByteArray)]) ?_ 3 _ rfl; (with_reducible repeat (first | refine blk_drewN ?_ _ | refine blk_drew ?_ | refine blk_alloc ?_ _)); exact BK260.out⟩, ⟨by repeat (first | (with_reducible first | exact HB.out | apply below_alloc | apply pw_below_drewN | apply below_drew1 | refine below_set ?_ GE259.out | refine below_set ?_ GE260.out) | exact HB.out)⟩⟩
       ·rw [if_neg c21] at H
        have c21b0 : (a0_0 == 2) = false := beq_eq_false_iff_ne.mpr c21
        have c21b1 : (a0_0 != 2) = true := bne_iff_ne.mpr c21
        (first | rw [c21b0] | (simp only [i64_w, i32_w]; rw [c21b0]) | skip)
        have H' := Aside0.mk H
        clear H
        go_wp2
        go_meet
        case rel => exact ⟨_, (0), (0), (0), (0), (0), (0), (0), (0), (0), (0), ((⟨#[]⟩ : ByteArray)), H', ⟨by have := HJ1.out; have := HJ7.out; first | omega | exact Nat.le_refl _⟩, ⟨by (with_reducible repeat (first | refine blk_drewN ?_ _ | refine blk_drew ?_ | refine blk_alloc ?_ _)); exact BK259.out⟩, ⟨by (with_reducible repeat (first | refine blk_drewN ?_ _ | refine blk_drew ?_ | refine blk_alloc ?_ _)); exact BK260.out⟩, ⟨by repeat (first | (with_reducible first | exact HB.out | apply below_alloc | apply pw_below_drewN | apply below_drew1 | refine below_set ?_ GE259.out | refine below_set ?_ GE260.out) | exact HB.out)⟩⟩
      case rest =>
       clear HC18
       try clear c1
       try clear c2
       try clear p2
       try clear c3
       try clear c4
       try clear c4b0
       try clear c7
       try clear c11
       try clear c12
       try clear c14
       try clear c14b0
       try clear c15
       try clear c19
       try clear c21
       try clear c21b0
       try clear c21b1
       try clear c22
       try clear c22b0
       try clear c23
       try clear c26
       try clear c26b0
       try clear c27
       try clear c30
       try clear c30b0
       try clear c30b1
       try clear c31
       try clear c34
       try clear hcz12
       try clear hcz13
       try clear hcz16
       try clear hcz17
       try clear hcz20
       try clear hcz24
       try clear hcz25
       try clear hcz28
       try clear hcz29
       try clear hcz32
       try clear hcz33
       try clear hcz35
       try clear hcz36
       try clear hcz5
       try clear hcz6
       try clear hcz9
       try clear hfz12_0
       try clear hfz13_0
       try clear hfz16_0
       try clear hfz17_0
       try clear hfz20_0
       try clear hfz24_0
       try clear hfz25_0
       try clear hfz28_0
       try clear hfz29_0
       try clear hfz32_0
       try clear hfz33_0
       try clear hfz35_0
       try clear hfz36_0
       try clear hfz5_0
       try clear hfz6_0
       try clear hfz9_0
       try clear p2
       obtain ⟨kq, Zv, Zw, Zx, Zy, Zz, Z10, Z11, Z12, Z13, Z14, Z15, HA, HJ17, BK259, BK260, HB⟩ := hcut
       cases kq with
       | zero => exact absurd HA.out (by simp [fairleadref17_Right.j2])
       | succ kj17 =>
        have H := HA.out
        clear HA
        simp only [fairleadref17_Right.j2] at H
        have HC37 := Aside0.mk H
        clear H
        go_upto_region 12 with (fail)
        go_cut [61] (fun v61 wc => ∃ (kq : Nat) (x61_36 : Bool), v61 = .bool x61_36 ∧ Aside0 (fairleadref17_Right.j3 kq x61_36 a0_0 a0_1 a0_2 a0_3 a0_4 a0_5 a0_6 a0_7 a0_8 a0_9 a0_10 a0_11 a0_12 a0_13 a0_14 a0_0 a0_1 Zu Zv 0 Zw Zx Zy Zz Z10 Z11 Z12 Z13 Z14 Z15 = some r) ∧ Aside0 (kq ≤ kj17) ∧ Aside0 (wc.heap[gb259]? = some (.cells #[.int .i64 a0_0, .int .u64 a0_1, .int .u64 a0_2, .int .i64 a0_3, .int .i64 a0_4, .int .u32 a0_5, .int .u32 a0_6, .int .u64 a0_7, .int .u64 a0_8, .int .u64 a0_9, .int .u64 a0_10, .int .u64 a0_11, .int .u64 a0_12, .int .u64 a0_13, .string a0_14] 28 (0, 0))) ∧ Aside0 (wc.heap[gb260]? = some (.cells #[.int .i64 a0_0, .int .u64 a0_1, .int .u64 Zu, .int .i64 Zv, .int .i64 0, .int .u32 Zw, .int .u32 Zx, .int .u64 Zy, .int .u64 Zz, .int .u64 Z10, .int .u64 Z11, .int .u64 Z12, .int .u64 Z13, .int .u64 Z14, .string Z15] 28 (0, 0))) ∧ Aside0 (Below w.heap.size w wc))
        case first =>
         have H := HC37.out
         clear HC37
         by_cases c38 : a0_0 = 4
         ·rw [if_pos c38] at H
          have c38b0 : (a0_0 == 4) = true := beq_iff_eq.mpr c38
          have c38b1 : (a0_0 != 4) = false := bne_eq_false_iff_eq.mpr c38
          clear c38
          (first | rw [c38b0] | (simp only [i64_w, i32_w]; rw [c38b0]) | skip)
          have H' := Aside0.mk H
          clear H
          have hnb39 := NB259_260.out
          have hnc39 := NB260_259.out
          have hcz40 := Mine.cells15 BK259.out
          have hfz40_0 := blk_frozen BK259.out
          go_wp2
          go_meet
          case rel => exact ⟨_, (true), (by first | rfl | (simp; done) | (simp [*]; done)), H', ⟨by have := HJ1.out; have := HJ7.out; have := HJ17.out; first | omega | exact Nat.le_refl _⟩, ⟨by (with_reducible repeat (first | refine blk_drewN ?_ _ | refine blk_drew ?_ | refine blk_alloc ?_ _)); exact BK259.out⟩, ⟨by (with_reducible repeat (first | refine blk_drewN ?_ _ | refine blk_drew ?_ | refine blk_alloc ?_ _)); exact BK260.out⟩, ⟨by repeat (first | (with_reducible first | exact HB.out | apply below_alloc | apply pw_below_drewN | apply below_drew1 | refine below_set ?_ GE259.out | refine below_set ?_ GE260.out) | exact HB.out)⟩⟩
         ·rw [if_neg c38] at H
          have c38b0 : (a0_0 == 4) = false := beq_eq_false_iff_ne.mpr c38
          have c38b1 : (a0_0 != 4) = true := bne_iff_ne.mpr c38
          (first | rw [c38b0] | (simp only [i64_w, i32_w]; rw [c38b0]) | skip)
          by_cases c41 : a0_0 = 5
          ·rw [if_pos c41] at H
           have c41b0 : (a0_0 == 5) = true := beq_iff_eq.mpr c41
           have c41b1 : (a0_0 != 5) = false := bne_eq_false_iff_eq.mpr c41
           clear c41
           have H' := Aside0.mk H
           clear H
           have hnb42 := NB259_260.out
           have hnc42 := NB260_259.out
           have hcz43 := Mine.cells15 BK259.out
           have hfz43_0 := blk_frozen BK259.out
           go_wp2
           go_meet
           case rel => exact ⟨_, (true), (by first | rfl | (simp; done) | (simp [*]; done)), H', ⟨by have := HJ1.out; have := HJ7.out; have := HJ17.out; first | omega | exact Nat.le_refl _⟩, ⟨by (with_reducible repeat (first | refine blk_drewN ?_ _ | refine blk_drew ?_ | refine blk_alloc ?_ _)); exact BK259.out⟩, ⟨by (with_reducible repeat (first | refine blk_drewN ?_ _ | refine blk_drew ?_ | refine blk_alloc ?_ _)); exact BK260.out⟩, ⟨by repeat (first | (with_reducible first | exact HB.out | apply below_alloc | apply pw_below_drewN | apply below_drew1 | refine below_set ?_ GE259.out | refine below_set ?_ GE260.out) | exact HB.out)⟩⟩
          ·rw [if_neg c41] at H
           have c41b0 : (a0_0 == 5) = false := beq_eq_false_iff_ne.mpr c41
           have c41b1 : (a0_0 != 5) = true := bne_iff_ne.mpr c41
           have H' := Aside0.mk H
           clear H
           have hnb44 := NB259_260.out
           have hnc44 := NB260_259.out
           have hcz45 := Mine.cells15 BK259.out
           have hfz45_0 := blk_frozen BK259.out
           go_wp2
           go_meet
           case rel => exact ⟨_, ((a0_0 == 7)), (by first | rfl | (simp; done) | (simp [*]; done)), H', ⟨by have := HJ1.out; have := HJ7.out; have := HJ17.out; first | omega | exact Nat.le_refl _⟩, ⟨by (with_reducible repeat (first | refine blk_drewN ?_ _ | refine blk_drew ?_ | refine blk_alloc ?_ _)); exact BK259.out⟩, ⟨by (with_reducible repeat (first | refine blk_drewN ?_ _ | refine blk_drew ?_ | refine blk_alloc ?_ _)); exact BK260.out⟩, ⟨by repeat (first | (with_reducible first | exact HB.out | apply below_alloc | apply pw_below_drewN | apply below_drew1 | refine below_set ?_ GE259.out | refine below_set ?_ GE260.out) | exact HB.out)⟩⟩
        case rest =>
         clear HC37
         try clear p2
         try clear c3
         try clear c4
         try clear c38
         try clear c38b0
         try clear c38b1
         try clear c39
         try clear c41
         try clear c41b0
         try clear c41b1
         try clear c42
         try clear c44
         try clear hcz13
         try clear hcz16
         try clear hcz17
         try clear hcz20
         try clear hcz24
         try clear hcz25
         try clear hcz28
         try clear hcz29
         try clear hcz32
         try clear hcz33
         try clear hcz35
         try clear hcz36
         try clear hcz40
         try clear hcz43
         try clear hcz45
         try clear hcz5
         try clear hcz6
         try clear hcz9
         try clear hfz12_0
         try clear hfz13_0
         try clear hfz16_0
         try clear hfz17_0
         try clear hfz20_0
         try clear hfz24_0
         try clear hfz25_0
         try clear hfz28_0
         try clear hfz29_0
         try clear hfz32_0
         try clear hfz33_0
         try clear hfz35_0
         try clear hfz36_0
         try clear hfz40_0
         try clear hfz43_0
         try clear hfz45_0
         try clear hfz5_0
         try clear hfz6_0
         try clear hfz9_0
         try clear p2
         obtain ⟨kq, x61_36, rfl, HA, HJ36, BK259, BK260, HB⟩ := hcut
         cases kq with
         | zero => exact absurd HA.out (by simp [fairleadref17_Right.j3])
         | succ kj36 =>
          have H := HA.out
          clear HA
          simp only [fairleadref17_Right.j3] at H
          by_cases c46 : x61_36 = true
          ·subst c46
           have H1 : (if a0_4 < 0 then (some false) else (if a0_4 > 65535 then (some false) else (if a0_0 = 7 then (if a0_4 > 1 then (some false) else (some (a0_0 == a0_0 && (a0_1 == a0_1 && (Zu == a0_2 && (Zv == a0_3 && ((Zw == a0_5 && (Zx == a0_6 && (Zy == a0_7 && ((Zz == a0_8 && (Z10 == a0_9 && (Z11 == a0_10 && (Z12 == a0_11 && (Z13 == a0_12 && (Z14 == a0_13)))))))))) && (Z15.toList == a0_14.toList)))))))) else (some (a0_0 == a0_0 && (a0_1 == a0_1 && (Zu == a0_2 && (Zv == a0_3 && ((Zw == a0_5 && (Zx == a0_6 && (Zy == a0_7 && ((Zz == a0_8 && (Z10 == a0_9 && (Z11 == a0_10 && (Z12 == a0_11 && (Z13 == a0_12 && (Z14 == a0_13)))))))))) && (Z15.toList == a0_14.toList)))))))))) = some r := by rw [if_pos rfl] at H; exact H
           clear H
           have H := H1
           clear H1
           by_cases c47 : a0_4 < 0
           ·rw [if_pos c47] at H
            have c47b0 : decide (a0_4 < 0) = true := decide_eq_true c47
            clear c47
            obtain rfl := Option.some.inj H
            have hnb48 := NB259_260.out
            have hnc48 := NB260_259.out
            have hcz49 := Mine.cells15 BK259.out
            have hfz49_0 := blk_frozen BK259.out
            have hcz50 := Mine.cells15 BK260.out
            have hfz50_0 := blk_frozen BK260.out
            go_wp2
            go_ret
            exact ⟨by first | rfl | (simp [errW_none, errW_some] <;> rfl) | (simp [*, errW_none, errW_some] <;> rfl), by repeat (first | (with_reducible first | exact HB.out | apply below_alloc | apply pw_below_drewN | apply below_drew1 | refine below_set ?_ GE259.out | refine below_set ?_ GE260.out) | exact HB.out)⟩
           ·rw [if_neg c47] at H
            have c47b0 : decide (a0_4 < 0) = false := decide_eq_false c47
            clear c47
            by_cases c51 : a0_4 > 65535
            ·rw [if_pos c51] at H
             have c51b0 : decide (65535 < a0_4) = true := decide_eq_true c51
             clear c51
             obtain rfl := Option.some.inj H
             have hnb52 := NB259_260.out
             have hnc52 := NB260_259.out
             have hcz53 := Mine.cells15 BK259.out
             have hfz53_0 := blk_frozen BK259.out
             have hcz54 := Mine.cells15 BK260.out
             have hfz54_0 := blk_frozen BK260.out
             go_wp2
             go_ret
             exact ⟨by first | rfl | (simp [errW_none, errW_some] <;> rfl) | (simp [*, errW_none, errW_some] <;> rfl), by repeat (first | (with_reducible first | exact HB.out | apply below_alloc | apply pw_below_drewN | apply below_drew1 | refine below_set ?_ GE259.out | refine below_set ?_ GE260.out) | exact HB.out)⟩
            ·rw [if_neg c51] at H
             have c51b0 : decide (65535 < a0_4) = false := decide_eq_false c51
             clear c51
             by_cases c55 : a0_0 = 7
             ·rw [if_pos c55] at H
              have c55b0 : (a0_0 == 7) = true := beq_iff_eq.mpr c55
              have c55b1 : (a0_0 != 7) = false := bne_eq_false_iff_eq.mpr c55
              clear c55
              by_cases c56 : a0_4 > 1
              ·rw [if_pos c56] at H
               have c56b0 : decide (1 < a0_4) = true := decide_eq_true c56
               clear c56
               obtain rfl := Option.some.inj H
               have hnb57 := NB259_260.out
               have hnc57 := NB260_259.out
               have hcz58 := Mine.cells15 BK259.out
               have hfz58_0 := blk_frozen BK259.out
               have hcz59 := Mine.cells15 BK260.out
               have hfz59_0 := blk_frozen BK260.out
               go_wp2
               go_ret
               exact ⟨by first | rfl | (simp [errW_none, errW_some] <;> rfl) | (simp [*, errW_none, errW_some] <;> rfl), by repeat (first | (with_reducible first | exact HB.out | apply below_alloc | apply pw_below_drewN | apply below_drew1 | refine below_set ?_ GE259.out | refine below_set ?_ GE260.out) | exact HB.out)⟩
              ·rw [if_neg c56] at H
               have c56b0 : decide (1 < a0_4) = false := decide_eq_false c56
               clear c56
               obtain rfl := Option.some.inj H
               have hnb60 := NB259_260.out
               have hnc60 := NB260_259.out
               have hcz61 := Mine.cells15 BK259.out
               have hfz61_0 := blk_frozen BK259.out
               have hcz62 := Mine.cells15 BK260.out
               have hfz62_0 := blk_frozen BK260.out
               go_wp2
               go_ret
               exact ⟨by first | rfl | (simp [errW_none, errW_some] <;> rfl) | (simp [*, errW_none, errW_some] <;> rfl), by repeat (first | (with_reducible first | exact HB.out | apply below_alloc | apply pw_below_drewN | apply below_drew1 | refine below_set ?_ GE259.out | refine below_set ?_ GE260.out) | exact HB.out)⟩
             ·rw [if_neg c55] at H
              have c55b0 : (a0_0 == 7) = false := beq_eq_false_iff_ne.mpr c55
              have c55b1 : (a0_0 != 7) = true := bne_iff_ne.mpr c55
              obtain rfl := Option.some.inj H
              have hnb63 := NB259_260.out
              have hnc63 := NB260_259.out
              have hcz64 := Mine.cells15 BK259.out
              have hfz64_0 := blk_frozen BK259.out
              have hcz65 := Mine.cells15 BK260.out
              have hfz65_0 := blk_frozen BK260.out
              go_wp2
              go_ret
              exact ⟨by first | rfl | (simp [errW_none, errW_some] <;> rfl) | (simp [*, errW_none, errW_some] <;> rfl), by repeat (first | (with_reducible first | exact HB.out | apply below_alloc | apply pw_below_drewN | apply below_drew1 | refine below_set ?_ GE259.out | refine below_set ?_ GE260.out) | exact HB.out)⟩
          ·replace c46 := Bool.eq_false_iff.mpr c46
           subst c46
           have H1 : (some (a0_0 == a0_0 && (a0_1 == a0_1 && (Zu == a0_2 && (Zv == a0_3 && (0 == a0_4 && ((Zw == a0_5 && (Zx == a0_6 && (Zy == a0_7 && ((Zz == a0_8 && (Z10 == a0_9 && (Z11 == a0_10 && (Z12 == a0_11 && (Z13 == a0_12 && (Z14 == a0_13)))))))))) && (Z15.toList == a0_14.toList)))))))) = some r := by rw [if_neg (show ¬ (false = true) by decide)] at H; exact H
           clear H
           have H := H1
           clear H1
           obtain rfl := Option.some.inj H
           have hnb66 := NB260_259.out
           have hnc66 := NB259_260.out
           have hcz67 := Mine.cells15 BK260.out
           have hfz67_0 := blk_frozen BK260.out
           have hcz68 := Mine.cells15 BK259.out
           have hfz68_0 := blk_frozen BK259.out
           go_wp2
           go_ret
           exact ⟨by first | rfl | (simp [errW_none, errW_some] <;> rfl) | (simp [*, errW_none, errW_some] <;> rfl), by repeat (first | (with_reducible first | exact HB.out | apply below_alloc | apply pw_below_drewN | apply below_drew1 | refine below_set ?_ GE259.out | refine below_set ?_ GE260.out) | exact HB.out)⟩
end Go.Proofs.Ytadglbmghldnfaa.M
