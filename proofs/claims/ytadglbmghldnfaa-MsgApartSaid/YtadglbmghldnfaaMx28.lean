-- Laid by a program (wip/tools/myprint.py) out of the loaded program's own print: for each Go function a Lean function and the proof of its contract.
import Derived.Test.YtadglbmghldnfaaMx0
import Derived.Test.YtadglbmghldnfaaMx2
import Derived.Test.YtadglbmghldnfaaMx6
import Derived.Test.YtadglbmghldnfaaMx15
namespace Go.Proofs.Ytadglbmghldnfaa.M
open Go.RowKit Go.Proofs.YtadglbmghldnfaaW.PrintWords Go.Proofs.YtadglbmghldnfaaW.PrintLast Go.Proofs.YtadglbmghldnfaaW.PrintMore
attribute [local go_sem] max2_int min2_int max_two min_two max_three min_three max_four min_four   -- for this text's walks alone
set_option linter.unusedVariables false
set_option linter.unusedSimpArgs false

attribute [local go_sem high] eqA28
/-! ### fairleadlaw17_MsgApart: function 7 -/
def fairleadlaw17_MsgApart.j0 : Nat → Bool → Bool → Int → Int → Int → Int → Int → Int → Int → Int → Int → Int → Int → Int → Int → Int → ByteArray → Int → Int → Int → Int → Int → Int → Int → Int → Int → Int → Int → Int → Int → Int → ByteArray → Option (Bool)
 | 0, _, _, _, _, _, _, _, _, _, _, _, _, _, _, _, _, _, _, _, _, _, _, _, _, _, _, _, _, _, _, _, _ => none
 | k + 1, x5, x20, Z0, Z1, Z2, Z3, Z4, Z5, Z6, Z7, Z8, Z9, Za, Zb, Zc, Zd, Ze, Zf, Zg, Zh, Zi, Zj, Zk, Zl, Zm, Zn, Zo, Zp, Zq, Zr, Zs, Zt => if x20 = true then (some x5) else ((msg_Encode.f k Z0 Z1 Z2 Z3 Z4 Z5 Z6 Z7 Z8 Z9 Za Zb Zc Zd Ze).bind fun bt599 => ((msg_Encode.f k Zf Zg Zh Zi Zj Zk Zl Zm Zn Zo Zp Zq Zr Zs Zt).bind fun bt603 => (if bt599.2 = 0 then (if bt603.2 = 0 then (if x5 = true then (some (((strOfNums bt599.1).toList == (strOfNums bt603.1).toList) == (Z0 == Zf && (Z1 == Zg && (Z2 == Zh && (Z3 == Zi && (Z4 == Zj && ((Z5 == Zk && (Z6 == Zl && (Z7 == Zm && ((Z8 == Zn && (Z9 == Zo && (Za == Zp && (Zb == Zq && (Zc == Zr && (Zd == Zs)))))))))) && (Ze.toList == Zt.toList))))))))) else (some false)) else (some x5)) else (some x5))))
def fairleadlaw17_MsgApart.f (k : Nat) (a0_0 : Int) (a0_1 : Int) (a0_2 : Int) (a0_3 : Int) (a0_4 : Int) (a0_5 : Int) (a0_6 : Int) (a0_7 : Int) (a0_8 : Int) (a0_9 : Int) (a0_10 : Int) (a0_11 : Int) (a0_12 : Int) (a0_13 : Int) (a0_14 : ByteArray) (a1_0 : Int) (a1_1 : Int) (a1_2 : Int) (a1_3 : Int) (a1_4 : Int) (a1_5 : Int) (a1_6 : Int) (a1_7 : Int) (a1_8 : Int) (a1_9 : Int) (a1_10 : Int) (a1_11 : Int) (a1_12 : Int) (a1_13 : Int) (a1_14 : ByteArray) : Option (Bool) := (fairleadlaw17_awake.f k).bind fun t598 => (if (a0_14.size : Int) > 2000 then (fairleadlaw17_MsgApart.j0 k t598 true a0_0 a0_1 a0_2 a0_3 a0_4 a0_5 a0_6 a0_7 a0_8 a0_9 a0_10 a0_11 a0_12 a0_13 a0_14 a1_0 a1_1 a1_2 a1_3 a1_4 a1_5 a1_6 a1_7 a1_8 a1_9 a1_10 a1_11 a1_12 a1_13 a1_14) else (fairleadlaw17_MsgApart.j0 k t598 (decide ((a1_14.size : Int) > 2000)) a0_0 a0_1 a0_2 a0_3 a0_4 a0_5 a0_6 a0_7 a0_8 a0_9 a0_10 a0_11 a0_12 a0_13 a0_14 a1_0 a1_1 a1_2 a1_3 a1_4 a1_5 a1_6 a1_7 a1_8 a1_9 a1_10 a1_11 a1_12 a1_13 a1_14))
theorem fairleadlaw17_MsgApart.mono_l : ∀ k, (∀ y0 y1 y2 y3 y4 y5 y6 y7 y8 y9 y10 y11 y12 y13 y14 y15 y16 y17 y18 y19 y20 y21 y22 y23 y24 y25 y26 y27 y28 y29 y30 y31, LeO (fairleadlaw17_MsgApart.j0 k y0 y1 y2 y3 y4 y5 y6 y7 y8 y9 y10 y11 y12 y13 y14 y15 y16 y17 y18 y19 y20 y21 y22 y23 y24 y25 y26 y27 y28 y29 y30 y31) (fairleadlaw17_MsgApart.j0 (k + 1) y0 y1 y2 y3 y4 y5 y6 y7 y8 y9 y10 y11 y12 y13 y14 y15 y16 y17 y18 y19 y20 y21 y22 y23 y24 y25 y26 y27 y28 y29 y30 y31))
 | 0 => fun _ _ _ _ _ _ _ _ _ _ _ _ _ _ _ _ _ _ _ _ _ _ _ _ _ _ _ _ _ _ _ _ r h => by simp [fairleadlaw17_MsgApart.j0] at h
 | k + 1 => by
  have ih0 := fairleadlaw17_MsgApart.mono_l k
  ·intro y0 y1 y2 y3 y4 y5 y6 y7 y8 y9 y10 y11 y12 y13 y14 y15 y16 y17 y18 y19 y20 y21 y22 y23 y24 y25 y26 y27 y28 y29 y30 y31
   unfold fairleadlaw17_MsgApart.j0
   repeat' first
   | (with_reducible exact ih0 _ _ _ _ _ _ _ _ _ _ _ _ _ _ _ _ _ _ _ _ _ _ _ _ _ _ _ _ _ _ _ _)
   | (with_reducible exact fairleadlaw17_awake.mono _)
   | (with_reducible exact msg_Encode.mono _ _ _ _ _ _ _ _ _ _ _ _ _ _ _ _)
   | (with_reducible exact LeO.refl _)
   | (with_reducible exact LeO.none _)
   | (with_reducible refine LeO.ite ?_ ?_)
   | (with_reducible refine LeO.bind ?_ (fun _ => ?_))
   | exact ih0 _ _ _ _ _ _ _ _ _ _ _ _ _ _ _ _ _ _ _ _ _ _ _ _ _ _ _ _ _ _ _ _
   | exact fairleadlaw17_awake.mono _
   | exact msg_Encode.mono _ _ _ _ _ _ _ _ _ _ _ _ _ _ _ _
   | exact LeO.none _
   | refine LeO.ite ?_ ?_
   | refine LeO.bind ?_ (fun _ => ?_)
theorem fairleadlaw17_MsgApart.mono : ∀ a0 a1 a2 a3 a4 a5 a6 a7 a8 a9 a10 a11 a12 a13 a14 a15 a16 a17 a18 a19 a20 a21 a22 a23 a24 a25 a26 a27 a28 a29 k, LeO (fairleadlaw17_MsgApart.f k a0 a1 a2 a3 a4 a5 a6 a7 a8 a9 a10 a11 a12 a13 a14 a15 a16 a17 a18 a19 a20 a21 a22 a23 a24 a25 a26 a27 a28 a29) (fairleadlaw17_MsgApart.f (k + 1) a0 a1 a2 a3 a4 a5 a6 a7 a8 a9 a10 a11 a12 a13 a14 a15 a16 a17 a18 a19 a20 a21 a22 a23 a24 a25 a26 a27 a28 a29) := by
 intro a0 a1 a2 a3 a4 a5 a6 a7 a8 a9 a10 a11 a12 a13 a14 a15 a16 a17 a18 a19 a20 a21 a22 a23 a24 a25 a26 a27 a28 a29 k
 have ih0 := fairleadlaw17_MsgApart.mono_l k
 unfold fairleadlaw17_MsgApart.f
 repeat' first
   | (with_reducible exact ih0 _ _ _ _ _ _ _ _ _ _ _ _ _ _ _ _ _ _ _ _ _ _ _ _ _ _ _ _ _ _ _ _)
   | (with_reducible exact fairleadlaw17_awake.mono _)
   | (with_reducible exact msg_Encode.mono _ _ _ _ _ _ _ _ _ _ _ _ _ _ _ _)
   | (with_reducible exact LeO.refl _)
   | (with_reducible exact LeO.none _)
   | (with_reducible refine LeO.ite ?_ ?_)
   | (with_reducible refine LeO.bind ?_ (fun _ => ?_))
   | exact ih0 _ _ _ _ _ _ _ _ _ _ _ _ _ _ _ _ _ _ _ _ _ _ _ _ _ _ _ _ _ _ _ _
   | exact fairleadlaw17_awake.mono _
   | exact msg_Encode.mono _ _ _ _ _ _ _ _ _ _ _ _ _ _ _ _
   | exact LeO.none _
   | refine LeO.ite ?_ ?_
   | refine LeO.bind ?_ (fun _ => ?_)
set_option maxHeartbeats 8000000 in
set_option maxRecDepth 100000 in
theorem fairleadlaw17_MsgApart.calls (k : Nat) (a0_0 : Int) (a0_1 : Int) (a0_2 : Int) (a0_3 : Int) (a0_4 : Int) (a0_5 : Int) (a0_6 : Int) (a0_7 : Int) (a0_8 : Int) (a0_9 : Int) (a0_10 : Int) (a0_11 : Int) (a0_12 : Int) (a0_13 : Int) (a0_14 : ByteArray) (a1_0 : Int) (a1_1 : Int) (a1_2 : Int) (a1_3 : Int) (a1_4 : Int) (a1_5 : Int) (a1_6 : Int) (a1_7 : Int) (a1_8 : Int) (a1_9 : Int) (a1_10 : Int) (a1_11 : Int) (a1_12 : Int) (a1_13 : Int) (a1_14 : ByteArray) (r : Bool) (w : World) (h : fairleadlaw17_MsgApart.f k a0_0 a0_1 a0_2 a0_3 a0_4 a0_5 a0_6 a0_7 a0_8 a0_9 a0_10 a0_11 a0_12 a0_13 a0_14 a1_0 a1_1 a1_2 a1_3 a1_4 a1_5 a1_6 a1_7 a1_8 a1_9 a1_10 a1_11 a1_12 a1_13 a1_14 = some r) :
  Calls Try.prog 7 #[.agg #[.int .i64 a0_0, .int .u64 a0_1, .int .u64 a0_2, .int .i64 a0_3, .int .i64 a0_4, .int .u32 a0_5, .int .u32 a0_6, .int .u64 a0_7, .int .u64 a0_8, .int .u64 a0_9, .int .u64 a0_10, .int .u64 a0_11, .int .u64 a0_12, .int .u64 a0_13, .string a0_14], .agg #[.int .i64 a1_0, .int .u64 a1_1, .int .u64 a1_2, .int .i64 a1_3, .int .i64 a1_4, .int .u32 a1_5, .int .u32 a1_6, .int .u64 a1_7, .int .u64 a1_8, .int .u64 a1_9, .int .u64 a1_10, .int .u64 a1_11, .int .u64 a1_12, .int .u64 a1_13, .string a1_14]] w fun e w' => e = .returned (.bool r) ∧ Below w.heap.size w w' := by
 have hu28 := Try.underlying28
 have HB := Aside0.mk (Below.refl w.heap.size w)
 have H : ((fairleadlaw17_awake.f k).bind fun t598 => (if (a0_14.size : Int) > 2000 then (fairleadlaw17_MsgApart.j0 k t598 true a0_0 a0_1 a0_2 a0_3 a0_4 a0_5 a0_6 a0_7 a0_8 a0_9 a0_10 a0_11 a0_12 a0_13 a0_14 a1_0 a1_1 a1_2 a1_3 a1_4 a1_5 a1_6 a1_7 a1_8 a1_9 a1_10 a1_11 a1_12 a1_13 a1_14) else (fairleadlaw17_MsgApart.j0 k t598 (decide ((a1_14.size : Int) > 2000)) a0_0 a0_1 a0_2 a0_3 a0_4 a0_5 a0_6 a0_7 a0_8 a0_9 a0_10 a0_11 a0_12 a0_13 a0_14 a1_0 a1_1 a1_2 a1_3 a1_4 a1_5 a1_6 a1_7 a1_8 a1_9 a1_10 a1_11 a1_12 a1_13 a1_14))) = some r := h
 clear h
 replace H := Option.bind_eq_some_iff.mp H
 obtain ⟨t598, A30, H⟩ := H
 replace H : (if (a0_14.size : Int) > 2000 then (fairleadlaw17_MsgApart.j0 k t598 true a0_0 a0_1 a0_2 a0_3 a0_4 a0_5 a0_6 a0_7 a0_8 a0_9 a0_10 a0_11 a0_12 a0_13 a0_14 a1_0 a1_1 a1_2 a1_3 a1_4 a1_5 a1_6 a1_7 a1_8 a1_9 a1_10 a1_11 a1_12 a1_13 a1_14) else (fairleadlaw17_MsgApart.j0 k t598 (decide ((a1_14.size : Int) > 2000)) a0_0 a0_1 a0_2 a0_3 a0_4 a0_5 a0_6 a0_7 a0_8 a0_9 a0_10 a0_11 a0_12 a0_13 a0_14 a1_0 a1_1 a1_2 a1_3 a1_4 a1_5 a1_6 a1_7 a1_8 a1_9 a1_10 a1_11 a1_12 a1_13 a1_14)) = some r := H
 have A3 := Aside0.mk A30
 clear A30
 have HC4 := Aside0.mk H
 clear H
 go_enter Try.func7, Try.ntmps7
 go_upto_region 2 with (first | ((with_reducible refine gate_dst (N := 2) rfl ?_); (try (refine gate_guard (by rfl) ?_; dsimp only)); refine box_event ?hg (N := 2) ?hd (cs := #[.int .i64 a0_0, .int .u64 a0_1, .int .u64 a0_2, .int .i64 a0_3, .int .i64 a0_4, .int .u32 a0_5, .int .u32 a0_6, .int .u64 a0_7, .int .u64 a0_8, .int .u64 a0_9, .int .u64 a0_10, .int .u64 a0_11, .int .u64 a0_12, .int .u64 a0_13, .string a0_14]) (t := 28) ?hr ?_; (case hd => rfl); (case hg => rfl); (case hr => first | (go_simp; done) | (go_simp; rfl)); intro gb596 hg w5 hbox hb; have n0_ := Aside0.mk (below_step (by repeat (first | (with_reducible first | exact HB.out | apply below_alloc | apply pw_below_drewN | apply below_drew1) | exact HB.out)) hb); have n1_ := Aside0.mk (hbox); have n2_ := Aside0.mk ((by rw [hg]; exact (below_size (by repeat (first | (with_reducible first | exact HB.out | apply below_alloc | apply pw_below_drewN | apply below_drew1) | exact HB.out))) : w.heap.size ≤ gb596)); have n3_ := Aside0.mk ((by rw [hg]; exact (below_size (by repeat (first | (with_reducible first | exact HB.out | apply below_alloc | apply pw_below_drewN | apply below_drew1) | exact HB.out))) : w.heap.size ≤ gb596)); clear HB; have HB := n0_; have BK596 := n1_; have GW596 := n2_; have GE596 := n3_; clear n0_ n1_ n2_ n3_; clear hb hbox hg) | ((with_reducible refine gate_dst (N := 3) rfl ?_); (try (refine gate_guard (by rfl) ?_; dsimp only)); refine box_event ?hg (N := 3) ?hd (cs := #[.int .i64 a1_0, .int .u64 a1_1, .int .u64 a1_2, .int .i64 a1_3, .int .i64 a1_4, .int .u32 a1_5, .int .u32 a1_6, .int .u64 a1_7, .int .u64 a1_8, .int .u64 a1_9, .int .u64 a1_10, .int .u64 a1_11, .int .u64 a1_12, .int .u64 a1_13, .string a1_14]) (t := 28) ?hr ?_; (case hd => rfl); (case hg => rfl); (case hr => first | (go_simp; done) | (go_simp; rfl)); intro gb597 hg w6 hbox hb; have n0_ := Aside0.mk (blk_below (g := gb596) (o := .cells #[.int .i64 a0_0, .int .u64 a0_1, .int .u64 a0_2, .int .i64 a0_3, .int .i64 a0_4, .int .u32 a0_5, .int .u32 a0_6, .int .u64 a0_7, .int .u64 a0_8, .int .u64 a0_9, .int .u64 a0_10, .int .u64 a0_11, .int .u64 a0_12, .int .u64 a0_13, .string a0_14] 28 (0, 0)) (by (with_reducible repeat (first | refine blk_drewN ?_ _ | refine blk_drew ?_ | refine blk_alloc ?_ _)); exact BK596.out) hb); have n1_ := Aside0.mk (below_step (by repeat (first | (with_reducible first | exact HB.out | apply below_alloc | apply pw_below_drewN | apply below_drew1 | refine below_set ?_ GE596.out) | exact HB.out)) hb); have n2_ := Aside0.mk (hbox); have n3_ := Aside0.mk ((by rw [hg]; exact (below_size (by repeat (first | (with_reducible first | exact HB.out | apply below_alloc | apply pw_below_drewN | apply below_drew1 | refine below_set ?_ GE596.out) | exact HB.out))) : w.heap.size ≤ gb597)); have n4_ := Aside0.mk ((by rw [hg]; exact (below_size (by repeat (first | (with_reducible first | exact HB.out | apply below_alloc | apply pw_below_drewN | apply below_drew1 | refine below_set ?_ GE596.out) | exact HB.out))) : w.heap.size ≤ gb597)); have n5_ := Aside0.mk ((by rw [hg]; exact Nat.ne_of_lt (blk_lt (g := gb596) (o := .cells #[.int .i64 a0_0, .int .u64 a0_1, .int .u64 a0_2, .int .i64 a0_3, .int .i64 a0_4, .int .u32 a0_5, .int .u32 a0_6, .int .u64 a0_7, .int .u64 a0_8, .int .u64 a0_9, .int .u64 a0_10, .int .u64 a0_11, .int .u64 a0_12, .int .u64 a0_13, .string a0_14] 28 (0, 0)) (by (with_reducible repeat (first | refine blk_drewN ?_ _ | refine blk_drew ?_ | refine blk_alloc ?_ _)); exact BK596.out)) : gb596 ≠ gb597)); have n6_ := Aside0.mk ((by rw [hg]; exact Nat.ne_of_gt (blk_lt (g := gb596) (o := .cells #[.int .i64 a0_0, .int .u64 a0_1, .int .u64 a0_2, .int .i64 a0_3, .int .i64 a0_4, .int .u32 a0_5, .int .u32 a0_6, .int .u64 a0_7, .int .u64 a0_8, .int .u64 a0_9, .int .u64 a0_10, .int .u64 a0_11, .int .u64 a0_12, .int .u64 a0_13, .string a0_14] 28 (0, 0)) (by (with_reducible repeat (first | refine blk_drewN ?_ _ | refine blk_drew ?_ | refine blk_alloc ?_ _)); exact BK596.out)) : gb597 ≠ gb596)); clear BK596; clear HB; have BK596 := n0_; have HB := n1_; have BK597 := n2_; have GW597 := n3_; have GE597 := n4_; have NB596_597 := n5_; have NB597_596 := n6_; clear n0_ n1_ n2_ n3_ n4_ n5_ n6_; clear hb hbox hg) | (go_at_call 8; (with_reducible refine (fairleadlaw17_awake.calls k  t598 _ A3.out).mono ?_); rintro e w7 ⟨rfl, hb⟩; have n0_ := Aside0.mk (blk_below (g := gb596) (o := .cells #[.int .i64 a0_0, .int .u64 a0_1, .int .u64 a0_2, .int .i64 a0_3, .int .i64 a0_4, .int .u32 a0_5, .int .u32 a0_6, .int .u64 a0_7, .int .u64 a0_8, .int .u64 a0_9, .int .u64 a0_10, .int .u64 a0_11, .int .u64 a0_12, .int .u64 a0_13, .string a0_14] 28 (0, 0)) (by (with_reducible repeat (first | refine blk_drewN ?_ _ | refine blk_drew ?_ | refine blk_alloc ?_ _)); exact BK596.out) hb); have n1_ := Aside0.mk (blk_below (g := gb597) (o := .cells #[.int .i64 a1_0, .int .u64 a1_1, .int .u64 a1_2, .int .i64 a1_3, .int .i64 a1_4, .int .u32 a1_5, .int .u32 a1_6, .int .u64 a1_7, .int .u64 a1_8, .int .u64 a1_9, .int .u64 a1_10, .int .u64 a1_11, .int .u64 a1_12, .int .u64 a1_13, .string a1_14] 28 (0, 0)) (by (with_reducible repeat (first | refine blk_drewN ?_ _ | refine blk_drew ?_ | refine blk_alloc ?_ _)); exact BK597.out) hb); have n2_ := Aside0.mk (below_step (by repeat (first | (with_reducible first | exact HB.out | apply below_alloc | apply pw_below_drewN | apply below_drew1 | refine below_set ?_ GE596.out | refine below_set ?_ GE597.out) | exact HB.out)) hb); clear BK596; clear BK597; clear HB; have BK596 := n0_; have BK597 := n1_; have HB := n2_; clear n0_ n1_ n2_; (try clear hb); (try clear hb2); (try clear hk); (try clear hi)))
 repeat (go_quiet (fail); try go_wp2)
 (try simp only [Act.put, List.setIfInBounds_toArray, List.set_cons_zero, List.set_cons_succ])
 go_cut [20] (fun v20 wc => ∃ (kq : Nat) (x20_3 : Bool), v20 = .bool x20_3 ∧ Aside0 (fairleadlaw17_MsgApart.j0 kq t598 x20_3 a0_0 a0_1 a0_2 a0_3 a0_4 a0_5 a0_6 a0_7 a0_8 a0_9 a0_10 a0_11 a0_12 a0_13 a0_14 a1_0 a1_1 a1_2 a1_3 a1_4 a1_5 a1_6 a1_7 a1_8 a1_9 a1_10 a1_11 a1_12 a1_13 a1_14 = some r) ∧ Aside0 (kq ≤ k) ∧ Aside0 (wc.heap[gb596]? = some (.cells #[.int .i64 a0_0, .int .u64 a0_1, .int .u64 a0_2, .int .i64 a0_3, .int .i64 a0_4, .int .u32 a0_5, .int .u32 a0_6, .int .u64 a0_7, .int .u64 a0_8, .int .u64 a0_9, .int .u64 a0_10, .int .u64 a0_11, .int .u64 a0_12, .int .u64 a0_13, .string a0_14] 28 (0, 0))) ∧ Aside0 (wc.heap[gb597]? = some (.cells #[.int .i64 a1_0, .int .u64 a1_1, .int .u64 a1_2, .int .i64 a1_3, .int .i64 a1_4, .int .u32 a1_5, .int .u32 a1_6, .int .u64 a1_7, .int .u64 a1_8, .int .u64 a1_9, .int .u64 a1_10, .int .u64 a1_11, .int .u64 a1_12, .int .u64 a1_13, .string a1_14] 28 (0, 0))) ∧ Aside0 (Below w.heap.size w wc))
 case first =>
  have H := HC4.out
  clear HC4
  by_cases c8 : (a0_14.size : Int) > 2000
  ·rw [if_pos c8] at H
   have c8b0 : decide (2000 < (a0_14.size : Int)) = true := decide_eq_true c8
   have c8b1 : decide (2000 < a0_14.size) = true := decide_eq_true (by omega)
   clear c8
   (first | rw [c8b0] | (simp only [i64_w, i32_w]; rw [c8b0]) | skip)
   have H' := Aside0.mk H
   clear H
   have hnb9 := NB596_597.out
   have hnc9 := NB597_596.out
   obtain ⟨hcz10_0, hcz10_1, hcz10_2, hcz10_3, hcz10_4, hcz10_5, hcz10_6, hcz10_7, hcz10_8, hcz10_9, hcz10_10, hcz10_11, hcz10_12, hcz10_13, hcz10_14⟩ := Mine.cells15 BK596.out
   have hfz10_0 := blk_frozen BK596.out
   go_wp2
   repeat (go_quiet (fail); try go_wp2)
   go_meet
   case rel => exact ⟨_, (true), (by first | rfl | (simp; done) | (simp [*]; done)), H', ⟨by first | omega | exact Nat.le_refl _⟩, ⟨by (with_reducible repeat (first | refine blk_drewN ?_ _ | refine blk_drew ?_ | refine blk_alloc ?_ _)); exact BK596.out⟩, ⟨by (with_reducible repeat (first | refine blk_drewN ?_ _ | refine blk_drew ?_ | refine blk_alloc ?_ _)); exact BK597.out⟩, ⟨by repeat (first | (with_reducible first | exact HB.out | apply below_alloc | apply pw_below_drewN | apply below_drew1 | refine below_set ?_ GE596.out | refine below_set ?_ GE597.out) | exact HB.out)⟩⟩
  ·rw [if_neg c8] at H
   have c8b0 : decide (2000 < (a0_14.size : Int)) = false := decide_eq_false c8
   have c8b1 : decide (2000 < a0_14.size) = false := decide_eq_false (by omega)
   clear c8
   (first | rw [c8b0] | (simp only [i64_w, i32_w]; rw [c8b0]) | skip)
   have H' := Aside0.mk H
   clear H
   have hnb11 := NB596_597.out
   have hnc11 := NB597_596.out
   obtain ⟨hcz12_0, hcz12_1, hcz12_2, hcz12_3, hcz12_4, hcz12_5, hcz12_6, hcz12_7, hcz12_8, hcz12_9, hcz12_10, hcz12_11, hcz12_12, hcz12_13, hcz12_14⟩ := Mine.cells15 BK596.out
   have hfz12_0 := blk_frozen BK596.out
   obtain ⟨hcz13_0, hcz13_1, hcz13_2, hcz13_3, hcz13_4, hcz13_5, hcz13_6, hcz13_7, hcz13_8, hcz13_9, hcz13_10, hcz13_11, hcz13_12, hcz13_13, hcz13_14⟩ := Mine.cells15 BK597.out
   have hfz13_0 := blk_frozen BK597.out
   go_wp2
   repeat (go_quiet (fail); try go_wp2)
   go_meet
   case rel => exact ⟨_, (decide ((a1_14.size : Int) > 2000)), (by first | rfl | (simp; done) | (simp [*]; done)), H', ⟨by first | omega | exact Nat.le_refl _⟩, ⟨by (with_reducible repeat (first | refine blk_drewN ?_ _ | refine blk_drew ?_ | refine blk_alloc ?_ _)); exact BK596.out⟩, ⟨by (with_reducible repeat (first | refine blk_drewN ?_ _ | refine blk_drew ?_ | refine blk_alloc ?_ _)); exact BK597.out⟩, ⟨by repeat (first | (with_reducible first | exact HB.out | apply below_alloc | apply pw_below_drewN | apply below_drew1 | refine below_set ?_ GE596.out | refine below_set ?_ GE597.out) | exact HB.out)⟩⟩
 case rest =>
  clear HC4
  try clear c1
  try clear p2
  try clear c7
  try clear c8
  try clear c8b0
  try clear c8b1
  try clear c9
  try clear c11
  try clear hcz10_0 hcz10_1 hcz10_10 hcz10_11 hcz10_12 hcz10_13 hcz10_14 hcz10_2 hcz10_3 hcz10_4 hcz10_5 hcz10_6 hcz10_7 hcz10_8 hcz10_9
  try clear hcz12_0 hcz12_1 hcz12_10 hcz12_11 hcz12_12 hcz12_13 hcz12_14 hcz12_2 hcz12_3 hcz12_4 hcz12_5 hcz12_6 hcz12_7 hcz12_8 hcz12_9
  try clear hcz13_0 hcz13_1 hcz13_10 hcz13_11 hcz13_12 hcz13_13 hcz13_14 hcz13_2 hcz13_3 hcz13_4 hcz13_5 hcz13_6 hcz13_7 hcz13_8 hcz13_9
  try clear hfz10_0
  try clear hfz12_0
  try clear hfz13_0
  obtain ⟨kq, x20_3, rfl, HA, HJ3, BK596, BK597, HB⟩ := hcut
  cases kq with
  | zero => exact absurd HA.out (by simp [fairleadlaw17_MsgApart.j0])
  | succ kj3 =>
   have H := HA.out
   clear HA
   simp only [fairleadlaw17_MsgApart.j0] at H
   by_cases c14 : x20_3 = true
   ·subst c14
    have H1 : (some t598) = some r := by rw [if_pos rfl] at H; exact H
    clear H
    have H := H1
    clear H1
    obtain rfl := Option.some.inj H
    go_wp2
    repeat (go_quiet (fail); try go_wp2)
    go_ret
    exact ⟨by first | rfl | (simp [errW_none, errW_some] <;> rfl) | (simp [*, errW_none, errW_some] <;> rfl), by repeat (first | (with_reducible first | exact HB.out | apply below_alloc | apply pw_below_drewN | apply below_drew1 | refine below_set ?_ GE596.out | refine below_set ?_ GE597.out) | exact HB.out)⟩
   ·replace c14 := Bool.eq_false_iff.mpr c14
    subst c14
    have H1 : ((msg_Encode.f kj3 a0_0 a0_1 a0_2 a0_3 a0_4 a0_5 a0_6 a0_7 a0_8 a0_9 a0_10 a0_11 a0_12 a0_13 a0_14).bind fun bt599 => ((msg_Encode.f kj3 a1_0 a1_1 a1_2 a1_3 a1_4 a1_5 a1_6 a1_7 a1_8 a1_9 a1_10 a1_11 a1_12 a1_13 a1_14).bind fun bt603 => (if bt599.2 = 0 then (if bt603.2 = 0 then (if t598 = true then (some (((strOfNums bt599.1).toList == (strOfNums bt603.1).toList) == (a0_0 == a1_0 && (a0_1 == a1_1 && (a0_2 == a1_2 && (a0_3 == a1_3 && (a0_4 == a1_4 && ((a0_5 == a1_5 && (a0_6 == a1_6 && (a0_7 == a1_7 && ((a0_8 == a1_8 && (a0_9 == a1_9 && (a0_10 == a1_10 && (a0_11 == a1_11 && (a0_12 == a1_12 && (a0_13 == a1_13)))))))))) && (a0_14.toList == a1_14.toList))))))))) else (some false)) else (some t598)) else (some t598)))) = some r := by rw [if_neg (show ¬ (false = true) by decide)] at H; exact H
    clear H
    have H := H1
    clear H1
    replace H := Option.bind_eq_some_iff.mp H
    obtain ⟨⟨t599, t602⟩, A150, H⟩ := H
    replace H : ((msg_Encode.f kj3 a1_0 a1_1 a1_2 a1_3 a1_4 a1_5 a1_6 a1_7 a1_8 a1_9 a1_10 a1_11 a1_12 a1_13 a1_14).bind fun bt603 => (if t602 = 0 then (if bt603.2 = 0 then (if t598 = true then (some (((strOfNums t599).toList == (strOfNums bt603.1).toList) == (a0_0 == a1_0 && (a0_1 == a1_1 && (a0_2 == a1_2 && (a0_3 == a1_3 && (a0_4 == a1_4 && ((a0_5 == a1_5 && (a0_6 == a1_6 && (a0_7 == a1_7 && ((a0_8 == a1_8 && (a0_9 == a1_9 && (a0_10 == a1_10 && (a0_11 == a1_11 && (a0_12 == a1_12 && (a0_13 == a1_13)))))))))) && (a0_14.toList == a1_14.toList))))))))) else (some false)) else (some t598)) else (some t598))) = some r := H
    have A15 := Aside0.mk A150
    clear A150
    replace H := Option.bind_eq_some_iff.mp H
    obtain ⟨⟨t603, t606⟩, A160, H⟩ := H
    replace H : (if t602 = 0 then (if t606 = 0 then (if t598 = true then (some (((strOfNums t599).toList == (strOfNums t603).toList) == (a0_0 == a1_0 && (a0_1 == a1_1 && (a0_2 == a1_2 && (a0_3 == a1_3 && (a0_4 == a1_4 && ((a0_5 == a1_5 && (a0_6 == a1_6 && (a0_7 == a1_7 && ((a0_8 == a1_8 && (a0_9 == a1_9 && (a0_10 == a1_10 && (a0_11 == a1_11 && (a0_12 == a1_12 && (a0_13 == a1_13)))))))))) && (a0_14.toList == a1_14.toList))))))))) else (some false)) else (some t598)) else (some t598)) = some r := H
    have A16 := Aside0.mk A160
    clear A160
    by_cases c17 : t602 = 0
    ·rw [if_pos c17] at H
     have c17b0 : (t602 == 0) = true := beq_iff_eq.mpr c17
     have c17b1 : (t602 != 0) = false := bne_eq_false_iff_eq.mpr c17
     clear c17
     by_cases c18 : t606 = 0
     ·rw [if_pos c18] at H
      have c18b0 : (t606 == 0) = true := beq_iff_eq.mpr c18
      have c18b1 : (t606 != 0) = false := bne_eq_false_iff_eq.mpr c18
      clear c18
      by_cases c19 : t598 = true
      ·subst c19
       have H1 : (some (((strOfNums t599).toList == (strOfNums t603).toList) == (a0_0 == a1_0 && (a0_1 == a1_1 && (a0_2 == a1_2 && (a0_3 == a1_3 && (a0_4 == a1_4 && ((a0_5 == a1_5 && (a0_6 == a1_6 && (a0_7 == a1_7 && ((a0_8 == a1_8 && (a0_9 == a1_9 && (a0_10 == a1_10 && (a0_11 == a1_11 && (a0_12 == a1_12 && (a0_13 == a1_13)))))))))) && (a0_14.toList == a1_14.toList))))))))) = some r := by rw [if_pos rfl] at H; exact H
       clear H
       have H := H1
       clear H1
       obtain rfl := Option.some.inj H
       have hnb20 := NB596_597.out
       have hnc20 := NB597_596.out
       obtain ⟨hcz21_0, hcz21_1, hcz21_2, hcz21_3, hcz21_4, hcz21_5, hcz21_6, hcz21_7, hcz21_8, hcz21_9, hcz21_10, hcz21_11, hcz21_12, hcz21_13, hcz21_14⟩ := Mine.cells15 BK596.out
       have hfz21_0 := blk_frozen BK596.out
       go_wp2_with (first | (go_at_call 9; (with_reducible refine (msg_Encode.calls kj3 a0_0 a0_1 a0_2 a0_3 a0_4 a0_5 a0_6 a0_7 a0_8 a0_9 a0_10 a0_11 a0_12 a0_13 a0_14 t599 t602 _ A15.out).mono ?_); rintro e w22 ⟨v600, rfl, ho0, hb⟩; have n0_ := Aside0.mk (Kd.R_lower ho0 (below_size (by repeat (first | (with_reducible first | exact HB.out | apply below_alloc | apply pw_below_drewN | apply below_drew1 | refine below_set ?_ GE596.out | refine below_set ?_ GE597.out) | exact HB.out)))); have n1_ := Aside0.mk (blk_below (g := gb596) (o := .cells #[.int .i64 a0_0, .int .u64 a0_1, .int .u64 a0_2, .int .i64 a0_3, .int .i64 a0_4, .int .u32 a0_5, .int .u32 a0_6, .int .u64 a0_7, .int .u64 a0_8, .int .u64 a0_9, .int .u64 a0_10, .int .u64 a0_11, .int .u64 a0_12, .int .u64 a0_13, .string a0_14] 28 (0, 0)) (by (with_reducible repeat (first | refine blk_drewN ?_ _ | refine blk_drew ?_ | refine blk_alloc ?_ _)); exact BK596.out) hb); have n2_ := Aside0.mk (blk_below (g := gb597) (o := .cells #[.int .i64 a1_0, .int .u64 a1_1, .int .u64 a1_2, .int .i64 a1_3, .int .i64 a1_4, .int .u32 a1_5, .int .u32 a1_6, .int .u64 a1_7, .int .u64 a1_8, .int .u64 a1_9, .int .u64 a1_10, .int .u64 a1_11, .int .u64 a1_12, .int .u64 a1_13, .string a1_14] 28 (0, 0)) (by (with_reducible repeat (first | refine blk_drewN ?_ _ | refine blk_drew ?_ | refine blk_alloc ?_ _)); exact BK597.out) hb); have n3_ := Aside0.mk (below_step (by repeat (first | (with_reducible first | exact HB.out | apply below_alloc | apply pw_below_drewN | apply below_drew1 | refine below_set ?_ GE596.out | refine below_set ?_ GE597.out) | exact HB.out)) hb); clear BK596; clear BK597; clear HB; have HO601 := n0_; have BK596 := n1_; have BK597 := n2_; have HB := n3_; clear n0_ n1_ n2_ n3_; (try clear hb); (try clear hb2); (try clear hk); (try clear hi); (try clear ho0); obtain ⟨hcz23_0, hcz23_1, hcz23_2, hcz23_3, hcz23_4, hcz23_5, hcz23_6, hcz23_7, hcz23_8, hcz23_9, hcz23_10, hcz23_11, hcz23_12, hcz23_13, hcz23_14⟩ := Mine.cells15 BK597.out; have hfz23_0 := blk_frozen BK597.out) | (go_at_call 9; (with_reducible refine (msg_Encode.calls kj3 a1_0 a1_1 a1_2 a1_3 a1_4 a1_5 a1_6 a1_7 a1_8 a1_9 a1_10 a1_11 a1_12 a1_13 a1_14 t603 t606 _ A16.out).mono ?_); rintro e w24 ⟨v604, rfl, ho0, hb⟩; have n0_ := Aside0.mk (Kd.R_elder' (by (with_reducible repeat (first | apply Kd.R_alloc | apply Kd.R_drewN | apply Kd.R_drew)); exact HO601.out) (Kd.R_base ho0) hb); have n1_ := Aside0.mk (Kd.R_lower (Kd.R_new' ho0 (Kd.R_lt (by (with_reducible repeat (first | apply Kd.R_alloc | apply Kd.R_drewN | apply Kd.R_drew)); exact HO601.out))) (below_size (by repeat (first | (with_reducible first | exact HB.out | apply below_alloc | apply pw_below_drewN | apply below_drew1 | refine below_set ?_ GE596.out | refine below_set ?_ GE597.out) | exact HB.out)))); have n2_ := Aside0.mk (blk_below (g := gb596) (o := .cells #[.int .i64 a0_0, .int .u64 a0_1, .int .u64 a0_2, .int .i64 a0_3, .int .i64 a0_4, .int .u32 a0_5, .int .u32 a0_6, .int .u64 a0_7, .int .u64 a0_8, .int .u64 a0_9, .int .u64 a0_10, .int .u64 a0_11, .int .u64 a0_12, .int .u64 a0_13, .string a0_14] 28 (0, 0)) (by (with_reducible repeat (first | refine blk_drewN ?_ _ | refine blk_drew ?_ | refine blk_alloc ?_ _)); exact BK596.out) hb); have n3_ := Aside0.mk (blk_below (g := gb597) (o := .cells #[.int .i64 a1_0, .int .u64 a1_1, .int .u64 a1_2, .int .i64 a1_3, .int .i64 a1_4, .int .u32 a1_5, .int .u32 a1_6, .int .u64 a1_7, .int .u64 a1_8, .int .u64 a1_9, .int .u64 a1_10, .int .u64 a1_11, .int .u64 a1_12, .int .u64 a1_13, .string a1_14] 28 (0, 0)) (by (with_reducible repeat (first | refine blk_drewN ?_ _ | refine blk_drew ?_ | refine blk_alloc ?_ _)); exact BK597.out) hb); have n4_ := Aside0.mk (below_step (by repeat (first | (with_reducible first | exact HB.out | apply below_alloc | apply pw_below_drewN | apply below_drew1 | refine below_set ?_ GE596.out | refine below_set ?_ GE597.out) | exact HB.out)) hb); clear HO601; clear BK596; clear BK597; clear HB; have HO601 := n0_; have HO605 := n1_; have BK596 := n2_; have BK597 := n3_; have HB := n4_; clear n0_ n1_ n2_ n3_ n4_; (try clear hb); (try clear hb2); (try clear hk); (try clear hi); (try clear ho0); have hcv25 := own_string (P := Try.prog) Try.underlying30 Try.underlying5 Try.underlying9 (Kd.own_of_R HO601.out); have hcvn25 := fun a_ : Nat => own_string (P := Try.prog) Try.underlying30 Try.underlying5 Try.underlying9 (Kd.own_of_R (Kd.R_drewN HO601.out a_)); have hcv26 := own_string (P := Try.prog) Try.underlying30 Try.underlying5 Try.underlying9 (Kd.own_of_R HO605.out); have hcvn26 := fun a_ : Nat => own_string (P := Try.prog) Try.underlying30 Try.underlying5 Try.underlying9 (Kd.own_of_R (Kd.R_drewN HO605.out a_)); obtain ⟨hcz27_0, hcz27_1, hcz27_2, hcz27_3, hcz27_4, hcz27_5, hcz27_6, hcz27_7, hcz27_8, hcz27_9, hcz27_10, hcz27_11, hcz27_12, hcz27_13, hcz27_14⟩ := Mine.cells15 BK596.out; have hfz27_0 := blk_frozen BK596.out; obtain ⟨hcz28_0, hcz28_1, hcz28_2, hcz28_3, hcz28_4, hcz28_5, hcz28_6, hcz28_7, hcz28_8, hcz28_9, hcz28_10, hcz28_11, hcz28_12, hcz28_13, hcz28_14⟩ := Mine.cells15 BK597.out; have hfz28_0 := blk_frozen BK597.out))
       repeat (go_quiet (fail); try go_wp2)
       go_ret
       exact ⟨by first | rfl | (simp [errW_none, errW_some] <;> rfl) | (simp [*, errW_none, errW_some] <;> rfl), by repeat (first | (with_reducible first | exact HB.out | apply below_alloc | apply pw_below_drewN | apply below_drew1 | refine below_set ?_ GE596.out | refine below_set ?_ GE597.out) | exact HB.out)⟩
      ·replace c19 := Bool.eq_false_iff.mpr c19
       subst c19
       have H1 : (some false) = some r := by rw [if_neg (show ¬ (false = true) by decide)] at H; exact H
       clear H
       have H := H1
       clear H1
       obtain rfl := Option.some.inj H
       have hnb29 := NB596_597.out
       have hnc29 := NB597_596.out
       obtain ⟨hcz30_0, hcz30_1, hcz30_2, hcz30_3, hcz30_4, hcz30_5, hcz30_6, hcz30_7, hcz30_8, hcz30_9, hcz30_10, hcz30_11, hcz30_12, hcz30_13, hcz30_14⟩ := Mine.cells15 BK596.out
       have hfz30_0 := blk_frozen BK596.out
       go_wp2_with (first | (go_at_call 9; (with_reducible refine (msg_Encode.calls kj3 a0_0 a0_1 a0_2 a0_3 a0_4 a0_5 a0_6 a0_7 a0_8 a0_9 a0_10 a0_11 a0_12 a0_13 a0_14 t599 t602 _ A15.out).mono ?_); rintro e w31 ⟨v600, rfl, ho0, hb⟩; have n0_ := Aside0.mk (Kd.R_lower ho0 (below_size (by repeat (first | (with_reducible first | exact HB.out | apply below_alloc | apply pw_below_drewN | apply below_drew1 | refine below_set ?_ GE596.out | refine below_set ?_ GE597.out) | exact HB.out)))); have n1_ := Aside0.mk (blk_below (g := gb596) (o := .cells #[.int .i64 a0_0, .int .u64 a0_1, .int .u64 a0_2, .int .i64 a0_3, .int .i64 a0_4, .int .u32 a0_5, .int .u32 a0_6, .int .u64 a0_7, .int .u64 a0_8, .int .u64 a0_9, .int .u64 a0_10, .int .u64 a0_11, .int .u64 a0_12, .int .u64 a0_13, .string a0_14] 28 (0, 0)) (by (with_reducible repeat (first | refine blk_drewN ?_ _ | refine blk_drew ?_ | refine blk_alloc ?_ _)); exact BK596.out) hb); have n2_ := Aside0.mk (blk_below (g := gb597) (o := .cells #[.int .i64 a1_0, .int .u64 a1_1, .int .u64 a1_2, .int .i64 a1_3, .int .i64 a1_4, .int .u32 a1_5, .int .u32 a1_6, .int .u64 a1_7, .int .u64 a1_8, .int .u64 a1_9, .int .u64 a1_10, .int .u64 a1_11, .int .u64 a1_12, .int .u64 a1_13, .string a1_14] 28 (0, 0)) (by (with_reducible repeat (first | refine blk_drewN ?_ _ | refine blk_drew ?_ | refine blk_alloc ?_ _)); exact BK597.out) hb); have n3_ := Aside0.mk (below_step (by repeat (first | (with_reducible first | exact HB.out | apply below_alloc | apply pw_below_drewN | apply below_drew1 | refine below_set ?_ GE596.out | refine below_set ?_ GE597.out) | exact HB.out)) hb); clear BK596; clear BK597; clear HB; have HO601 := n0_; have BK596 := n1_; have BK597 := n2_; have HB := n3_; clear n0_ n1_ n2_ n3_; (try clear hb); (try clear hb2); (try clear hk); (try clear hi); (try clear ho0); obtain ⟨hcz32_0, hcz32_1, hcz32_2, hcz32_3, hcz32_4, hcz32_5, hcz32_6, hcz32_7, hcz32_8, hcz32_9, hcz32_10, hcz32_11, hcz32_12, hcz32_13, hcz32_14⟩ := Mine.cells15 BK597.out; have hfz32_0 := blk_frozen BK597.out) | (go_at_call 9; (with_reducible refine (msg_Encode.calls kj3 a1_0 a1_1 a1_2 a1_3 a1_4 a1_5 a1_6 a1_7 a1_8 a1_9 a1_10 a1_11 a1_12 a1_13 a1_14 t603 t606 _ A16.out).mono ?_); rintro e w33 ⟨v604, rfl, ho0, hb⟩; have n0_ := Aside0.mk (Kd.R_elder' (by (with_reducible repeat (first | apply Kd.R_alloc | apply Kd.R_drewN | apply Kd.R_drew)); exact HO601.out) (Kd.R_base ho0) hb); have n1_ := Aside0.mk (Kd.R_lower (Kd.R_new' ho0 (Kd.R_lt (by (with_reducible repeat (first | apply Kd.R_alloc | apply Kd.R_drewN | apply Kd.R_drew)); exact HO601.out))) (below_size (by repeat (first | (with_reducible first | exact HB.out | apply below_alloc | apply pw_below_drewN | apply below_drew1 | refine below_set ?_ GE596.out | refine below_set ?_ GE597.out) | exact HB.out)))); have n2_ := Aside0.mk (blk_below (g := gb596) (o := .cells #[.int .i64 a0_0, .int .u64 a0_1, .int .u64 a0_2, .int .i64 a0_3, .int .i64 a0_4, .int .u32 a0_5, .int .u32 a0_6, .int .u64 a0_7, .int .u64 a0_8, .int .u64 a0_9, .int .u64 a0_10, .int .u64 a0_11, .int .u64 a0_12, .int .u64 a0_13, .string a0_14] 28 (0, 0)) (by (with_reducible repeat (first | refine blk_drewN ?_ _ | refine blk_drew ?_ | refine blk_alloc ?_ _)); exact BK596.out) hb); have n3_ := Aside0.mk (blk_below (g := gb597) (o := .cells #[.int .i64 a1_0, .int .u64 a1_1, .int .u64 a1_2, .int .i64 a1_3, .int .i64 a1_4, .int .u32 a1_5, .int .u32 a1_6, .int .u64 a1_7, .int .u64 a1_8, .int .u64 a1_9, .int .u64 a1_10, .int .u64 a1_11, .int .u64 a1_12, .int .u64 a1_13, .string a1_14] 28 (0, 0)) (by (with_reducible repeat (first | refine blk_drewN ?_ _ | refine blk_drew ?_ | refine blk_alloc ?_ _)); exact BK597.out) hb); have n4_ := Aside0.mk (below_step (by repeat (first | (with_reducible first | exact HB.out | apply below_alloc | apply pw_below_drewN | apply below_drew1 | refine below_set ?_ GE596.out | refine below_set ?_ GE597.out) | exact HB.out)) hb); clear HO601; clear BK596; clear BK597; clear HB; have HO601 := n0_; have HO605 := n1_; have BK596 := n2_; have BK597 := n3_; have HB := n4_; clear n0_ n1_ n2_ n3_ n4_; (try clear hb); (try clear hb2); (try clear hk); (try clear hi); (try clear ho0)))
       repeat (go_quiet (fail); try go_wp2)
       go_ret
       exact ⟨by first | rfl | (simp [errW_none, errW_some] <;> rfl) | (simp [*, errW_none, errW_some] <;> rfl), by repeat (first | (with_reducible first | exact HB.out | apply below_alloc | apply pw_below_drewN | apply below_drew1 | refine below_set ?_ GE596.out | refine below_set ?_ GE597.out) | exact HB.out)⟩
     ·rw [if_neg c18] at H
      have c18b0 : (t606 == 0) = false := beq_eq_false_iff_ne.mpr c18
      have c18b1 : (t606 != 0) = true := bne_iff_ne.mpr c18
      obtain rfl := Option.some.inj H
      have hnb34 := NB596_597.out
      have hnc34 := NB597_596.out
      obtain ⟨hcz35_0, hcz35_1, hcz35_2, hcz35_3, hcz35_4, hcz35_5, hcz35_6, hcz35_7, hcz35_8, hcz35_9, hcz35_10, hcz35_11, hcz35_12, hcz35_13, hcz35_14⟩ := Mine.cells15 BK596.out
      have hfz35_0 := blk_frozen BK596.out
      go_wp2_with (first | (go_at_call 9; (with_reducible refine (msg_Encode.calls kj3 a0_0 a0_1 a0_2 a0_3 a0_4 a0_5 a0_6 a0_7 a0_8 a0_9 a0_10 a0_11 a0_12 a0_13 a0_14 t599 t602 _ A15.out).mono ?_); rintro e w36 ⟨v600, rfl, ho0, hb⟩; have n0_ := Aside0.mk (Kd.R_lower ho0 (below_size (by repeat (first | (with_reducible first | exact HB.out | apply below_alloc | apply pw_below_drewN | apply below_drew1 | refine below_set ?_ GE596.out | refine below_set ?_ GE597.out) | exact HB.out)))); have n1_ := Aside0.mk (blk_below (g := gb596) (o := .cells #[.int .i64 a0_0, .int .u64 a0_1, .int .u64 a0_2, .int .i64 a0_3, .int .i64 a0_4, .int .u32 a0_5, .int .u32 a0_6, .int .u64 a0_7, .int .u64 a0_8, .int .u64 a0_9, .int .u64 a0_10, .int .u64 a0_11, .int .u64 a0_12, .int .u64 a0_13, .string a0_14] 28 (0, 0)) (by (with_reducible repeat (first | refine blk_drewN ?_ _ | refine blk_drew ?_ | refine blk_alloc ?_ _)); exact BK596.out) hb); have n2_ := Aside0.mk (blk_below (g := gb597) (o := .cells #[.int .i64 a1_0, .int .u64 a1_1, .int .u64 a1_2, .int .i64 a1_3, .int .i64 a1_4, .int .u32 a1_5, .int .u32 a1_6, .int .u64 a1_7, .int .u64 a1_8, .int .u64 a1_9, .int .u64 a1_10, .int .u64 a1_11, .int .u64 a1_12, .int .u64 a1_13, .string a1_14] 28 (0, 0)) (by (with_reducible repeat (first | refine blk_drewN ?_ _ | refine blk_drew ?_ | refine blk_alloc ?_ _)); exact BK597.out) hb); have n3_ := Aside0.mk (below_step (by repeat (first | (with_reducible first | exact HB.out | apply below_alloc | apply pw_below_drewN | apply below_drew1 | refine below_set ?_ GE596.out | refine below_set ?_ GE597.out) | exact HB.out)) hb); clear BK596; clear BK597; clear HB; have HO601 := n0_; have BK596 := n1_; have BK597 := n2_; have HB := n3_; clear n0_ n1_ n2_ n3_; (try clear hb); (try clear hb2); (try clear hk); (try clear hi); (try clear ho0); obtain ⟨hcz37_0, hcz37_1, hcz37_2, hcz37_3, hcz37_4, hcz37_5, hcz37_6, hcz37_7, hcz37_8, hcz37_9, hcz37_10, hcz37_11, hcz37_12, hcz37_13, hcz37_14⟩ := Mine.cells15 BK597.out; have hfz37_0 := blk_frozen BK597.out) | (go_at_call 9; (with_reducible refine (msg_Encode.calls kj3 a1_0 a1_1 a1_2 a1_3 a1_4 a1_5 a1_6 a1_7 a1_8 a1_9 a1_10 a1_11 a1_12 a1_13 a1_14 t603 t606 _ A16.out).mono ?_); rintro e w38 ⟨v604, rfl, ho0, hb⟩; have n0_ := Aside0.mk (Kd.R_elder' (by (with_reducible repeat (first | apply Kd.R_alloc | apply Kd.R_drewN | apply Kd.R_drew)); exact HO601.out) (Kd.R_base ho0) hb); have n1_ := Aside0.mk (Kd.R_lower (Kd.R_new' ho0 (Kd.R_lt (by (with_reducible repeat (first | apply Kd.R_alloc | apply Kd.R_drewN | apply Kd.R_drew)); exact HO601.out))) (below_size (by repeat (first | (with_reducible first | exact HB.out | apply below_alloc | apply pw_below_drewN | apply below_drew1 | refine below_set ?_ GE596.out | refine below_set ?_ GE597.out) | exact HB.out)))); have n2_ := Aside0.mk (blk_below (g := gb596) (o := .cells #[.int .i64 a0_0, .int .u64 a0_1, .int .u64 a0_2, .int .i64 a0_3, .int .i64 a0_4, .int .u32 a0_5, .int .u32 a0_6, .int .u64 a0_7, .int .u64 a0_8, .int .u64 a0_9, .int .u64 a0_10, .int .u64 a0_11, .int .u64 a0_12, .int .u64 a0_13, .string a0_14] 28 (0, 0)) (by (with_reducible repeat (first | refine blk_drewN ?_ _ | refine blk_drew ?_ | refine blk_alloc ?_ _)); exact BK596.out) hb); have n3_ := Aside0.mk (blk_below (g := gb597) (o := .cells #[.int .i64 a1_0, .int .u64 a1_1, .int .u64 a1_2, .int .i64 a1_3, .int .i64 a1_4, .int .u32 a1_5, .int .u32 a1_6, .int .u64 a1_7, .int .u64 a1_8, .int .u64 a1_9, .int .u64 a1_10, .int .u64 a1_11, .int .u64 a1_12, .int .u64 a1_13, .string a1_14] 28 (0, 0)) (by (with_reducible repeat (first | refine blk_drewN ?_ _ | refine blk_drew ?_ | refine blk_alloc ?_ _)); exact BK597.out) hb); have n4_ := Aside0.mk (below_step (by repeat (first | (with_reducible first | exact HB.out | apply below_alloc | apply pw_below_drewN | apply below_drew1 | refine below_set ?_ GE596.out | refine below_set ?_ GE597.out) | exact HB.out)) hb); clear HO601; clear BK596; clear BK597; clear HB; have HO601 := n0_; have HO605 := n1_; have BK596 := n2_; have BK597 := n3_; have HB := n4_; clear n0_ n1_ n2_ n3_ n4_; (try clear hb); (try clear hb2); (try clear hk); (try clear hi); (try clear ho0)))
      repeat (go_quiet (fail); try go_wp2)
      go_ret
      exact ⟨by first | rfl | (simp [errW_none, errW_some] <;> rfl) | (simp [*, errW_none, errW_some] <;> rfl), by repeat (first | (with_reducible first | exact HB.out | apply below_alloc | apply pw_below_drewN | apply below_drew1 | refine below_set ?_ GE596.out | refine below_set ?_ GE597.out) | exact HB.out)⟩
    ·rw [if_neg c17] at H
     have c17b0 : (t602 == 0) = false := beq_eq_false_iff_ne.mpr c17
     have c17b1 : (t602 != 0) = true := bne_iff_ne.mpr c17
     obtain rfl := Option.some.inj H
     have hnb39 := NB596_597.out
     have hnc39 := NB597_596.out
     obtain ⟨hcz40_0, hcz40_1, hcz40_2, hcz40_3, hcz40_4, hcz40_5, hcz40_6, hcz40_7, hcz40_8, hcz40_9, hcz40_10, hcz40_11, hcz40_12, hcz40_13, hcz40_14⟩ := Mine.cells15 BK596.out
     have hfz40_0 := blk_frozen BK596.out
     go_wp2_with (first | (go_at_call 9; (with_reducible refine (msg_Encode.calls kj3 a0_0 a0_1 a0_2 a0_3 a0_4 a0_5 a0_6 a0_7 a0_8 a0_9 a0_10 a0_11 a0_12 a0_13 a0_14 t599 t602 _ A15.out).mono ?_); rintro e w41 ⟨v600, rfl, ho0, hb⟩; have n0_ := Aside0.mk (Kd.R_lower ho0 (below_size (by repeat (first | (with_reducible first | exact HB.out | apply below_alloc | apply pw_below_drewN | apply below_drew1 | refine below_set ?_ GE596.out | refine below_set ?_ GE597.out) | exact HB.out)))); have n1_ := Aside0.mk (blk_below (g := gb596) (o := .cells #[.int .i64 a0_0, .int .u64 a0_1, .int .u64 a0_2, .int .i64 a0_3, .int .i64 a0_4, .int .u32 a0_5, .int .u32 a0_6, .int .u64 a0_7, .int .u64 a0_8, .int .u64 a0_9, .int .u64 a0_10, .int .u64 a0_11, .int .u64 a0_12, .int .u64 a0_13, .string a0_14] 28 (0, 0)) (by (with_reducible repeat (first | refine blk_drewN ?_ _ | refine blk_drew ?_ | refine blk_alloc ?_ _)); exact BK596.out) hb); have n2_ := Aside0.mk (blk_below (g := gb597) (o := .cells #[.int .i64 a1_0, .int .u64 a1_1, .int .u64 a1_2, .int .i64 a1_3, .int .i64 a1_4, .int .u32 a1_5, .int .u32 a1_6, .int .u64 a1_7, .int .u64 a1_8, .int .u64 a1_9, .int .u64 a1_10, .int .u64 a1_11, .int .u64 a1_12, .int .u64 a1_13, .string a1_14] 28 (0, 0)) (by (with_reducible repeat (first | refine blk_drewN ?_ _ | refine blk_drew ?_ | refine blk_alloc ?_ _)); exact BK597.out) hb); have n3_ := Aside0.mk (below_step (by repeat (first | (with_reducible first | exact HB.out | apply below_alloc | apply pw_below_drewN | apply below_drew1 | refine below_set ?_ GE596.out | refine below_set ?_ GE597.out) | exact HB.out)) hb); clear BK596; clear BK597; clear HB; have HO601 := n0_; have BK596 := n1_; have BK597 := n2_; have HB := n3_; clear n0_ n1_ n2_ n3_; (try clear hb); (try clear hb2); (try clear hk); (try clear hi); (try clear ho0); obtain ⟨hcz42_0, hcz42_1, hcz42_2, hcz42_3, hcz42_4, hcz42_5, hcz42_6, hcz42_7, hcz42_8, hcz42_9, hcz42_10, hcz42_11, hcz42_12, hcz42_13, hcz42_14⟩ := Mine.cells15 BK597.out; have hfz42_0 := blk_frozen BK597.out) | (go_at_call 9; (with_reducible refine (msg_Encode.calls kj3 a1_0 a1_1 a1_2 a1_3 a1_4 a1_5 a1_6 a1_7 a1_8 a1_9 a1_10 a1_11 a1_12 a1_13 a1_14 t603 t606 _ A16.out).mono ?_); rintro e w43 ⟨v604, rfl, ho0, hb⟩; have n0_ := Aside0.mk (Kd.R_elder' (by (with_reducible repeat (first | apply Kd.R_alloc | apply Kd.R_drewN | apply Kd.R_drew)); exact HO601.out) (Kd.R_base ho0) hb); have n1_ := Aside0.mk (Kd.R_lower (Kd.R_new' ho0 (Kd.R_lt (by (with_reducible repeat (first | apply Kd.R_alloc | apply Kd.R_drewN | apply Kd.R_drew)); exact HO601.out))) (below_size (by repeat (first | (with_reducible first | exact HB.out | apply below_alloc | apply pw_below_drewN | apply below_drew1 | refine below_set ?_ GE596.out | refine below_set ?_ GE597.out) | exact HB.out)))); have n2_ := Aside0.mk (blk_below (g := gb596) (o := .cells #[.int .i64 a0_0, .int .u64 a0_1, .int .u64 a0_2, .int .i64 a0_3, .int .i64 a0_4, .int .u32 a0_5, .int .u32 a0_6, .int .u64 a0_7, .int .u64 a0_8, .int .u64 a0_9, .int .u64 a0_10, .int .u64 a0_11, .int .u64 a0_12, .int .u64 a0_13, .string a0_14] 28 (0, 0)) (by (with_reducible repeat (first | refine blk_drewN ?_ _ | refine blk_drew ?_ | refine blk_alloc ?_ _)); exact BK596.out) hb); have n3_ := Aside0.mk (blk_below (g := gb597) (o := .cells #[.int .i64 a1_0, .int .u64 a1_1, .int .u64 a1_2, .int .i64 a1_3, .int .i64 a1_4, .int .u32 a1_5, .int .u32 a1_6, .int .u64 a1_7, .int .u64 a1_8, .int .u64 a1_9, .int .u64 a1_10, .int .u64 a1_11, .int .u64 a1_12, .int .u64 a1_13, .string a1_14] 28 (0, 0)) (by (with_reducible repeat (first | refine blk_drewN ?_ _ | refine blk_drew ?_ | refine blk_alloc ?_ _)); exact BK597.out) hb); have n4_ := Aside0.mk (below_step (by repeat (first | (with_reducible first | exact HB.out | apply below_alloc | apply pw_below_drewN | apply below_drew1 | refine below_set ?_ GE596.out | refine below_set ?_ GE597.out) | exact HB.out)) hb); clear HO601; clear BK596; clear BK597; clear HB; have HO601 := n0_; have HO605 := n1_; have BK596 := n2_; have BK597 := n3_; have HB := n4_; clear n0_ n1_ n2_ n3_ n4_; (try clear hb); (try clear hb2); (try clear hk); (try clear hi); (try clear ho0)))
     repeat (go_quiet (fail); try go_wp2)
     go_ret
     exact ⟨by first | rfl | (simp [errW_none, errW_some] <;> rfl) | (simp [*, errW_none, errW_some] <;> rfl), by repeat (first | (with_reducible first | exact HB.out | apply below_alloc | apply pw_below_drewN | apply below_drew1 | refine below_set ?_ GE596.out | refine below_set ?_ GE597.out) | exact HB.out)⟩

/-- What is to be shown of fairleadlaw17_MsgApart, without Go and memory. -/
def fairleadlaw17_MsgApart.Pure : Prop := ∀ (a0_0 : Int) (a0_1 : Int) (a0_2 : Int) (a0_3 : Int) (a0_4 : Int) (a0_5 : Int) (a0_6 : Int) (a0_7 : Int) (a0_8 : Int) (a0_9 : Int) (a0_10 : Int) (a0_11 : Int) (a0_12 : Int) (a0_13 : Int) (a0_14 : ByteArray) (a1_0 : Int) (a1_1 : Int) (a1_2 : Int) (a1_3 : Int) (a1_4 : Int) (a1_5 : Int) (a1_6 : Int) (a1_7 : Int) (a1_8 : Int) (a1_9 : Int) (a1_10 : Int) (a1_11 : Int) (a1_12 : Int) (a1_13 : Int) (a1_14 : ByteArray), (((-9223372036854775808) ≤ a0_0 ∧ a0_0 ≤ 9223372036854775807) ∧ (0 ≤ a0_1 ∧ a0_1 ≤ 18446744073709551615) ∧ (0 ≤ a0_2 ∧ a0_2 ≤ 18446744073709551615) ∧ ((-9223372036854775808) ≤ a0_3 ∧ a0_3 ≤ 9223372036854775807) ∧ ((-9223372036854775808) ≤ a0_4 ∧ a0_4 ≤ 9223372036854775807) ∧ ((0 ≤ a0_5 ∧ a0_5 ≤ 4294967295) ∧ (0 ≤ a0_6 ∧ a0_6 ≤ 4294967295) ∧ (0 ≤ a0_7 ∧ a0_7 ≤ 18446744073709551615) ∧ ((0 ≤ a0_8 ∧ a0_8 ≤ 18446744073709551615) ∧ (0 ≤ a0_9 ∧ a0_9 ≤ 18446744073709551615) ∧ (0 ≤ a0_10 ∧ a0_10 ≤ 18446744073709551615) ∧ (0 ≤ a0_11 ∧ a0_11 ≤ 18446744073709551615) ∧ (0 ≤ a0_12 ∧ a0_12 ≤ 18446744073709551615) ∧ (0 ≤ a0_13 ∧ a0_13 ≤ 18446744073709551615))) ∧ (a0_14.size ≤ 9223372036854775807)) → (((-9223372036854775808) ≤ a1_0 ∧ a1_0 ≤ 9223372036854775807) ∧ (0 ≤ a1_1 ∧ a1_1 ≤ 18446744073709551615) ∧ (0 ≤ a1_2 ∧ a1_2 ≤ 18446744073709551615) ∧ ((-9223372036854775808) ≤ a1_3 ∧ a1_3 ≤ 9223372036854775807) ∧ ((-9223372036854775808) ≤ a1_4 ∧ a1_4 ≤ 9223372036854775807) ∧ ((0 ≤ a1_5 ∧ a1_5 ≤ 4294967295) ∧ (0 ≤ a1_6 ∧ a1_6 ≤ 4294967295) ∧ (0 ≤ a1_7 ∧ a1_7 ≤ 18446744073709551615) ∧ ((0 ≤ a1_8 ∧ a1_8 ≤ 18446744073709551615) ∧ (0 ≤ a1_9 ∧ a1_9 ≤ 18446744073709551615) ∧ (0 ≤ a1_10 ∧ a1_10 ≤ 18446744073709551615) ∧ (0 ≤ a1_11 ∧ a1_11 ≤ 18446744073709551615) ∧ (0 ≤ a1_12 ∧ a1_12 ≤ 18446744073709551615) ∧ (0 ≤ a1_13 ∧ a1_13 ≤ 18446744073709551615))) ∧ (a1_14.size ≤ 9223372036854775807)) → ∃ k, fairleadlaw17_MsgApart.f k a0_0 a0_1 a0_2 a0_3 a0_4 a0_5 a0_6 a0_7 a0_8 a0_9 a0_10 a0_11 a0_12 a0_13 a0_14 a1_0 a1_1 a1_2 a1_3 a1_4 a1_5 a1_6 a1_7 a1_8 a1_9 a1_10 a1_11 a1_12 a1_13 a1_14 = some true

end Go.Proofs.Ytadglbmghldnfaa.M
