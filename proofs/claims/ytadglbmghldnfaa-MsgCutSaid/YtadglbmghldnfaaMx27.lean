-- Laid by a program (wip/tools/myprint.py) out of the loaded program's own print: for each Go function a Lean function and the proof of its contract.
import Derived.Test.YtadglbmghldnfaaMx0
import Derived.Test.YtadglbmghldnfaaMx2
import Derived.Test.YtadglbmghldnfaaMx6
import Derived.Test.YtadglbmghldnfaaMx14
import Derived.Test.YtadglbmghldnfaaMx15
namespace Go.Proofs.Ytadglbmghldnfaa.M
open Go.RowKit Go.Proofs.YtadglbmghldnfaaW.PrintWords Go.Proofs.YtadglbmghldnfaaW.PrintLast Go.Proofs.YtadglbmghldnfaaW.PrintMore
attribute [local go_sem] max2_int min2_int max_two min_two max_three min_three max_four min_four   -- for this text's walks alone
set_option linter.unusedVariables false
set_option linter.unusedSimpArgs false

/-! ### fairleadlaw17_MsgCut: function 6 -/
-- HAND rounds=True making=True
attribute [local go_sem high] eqA28
theorem msg_pu1b {B g : Nat} {w0 w : World} (h : Below B w0 w) (hg : B ≤ g) (i : Nat) (v : Value) : Below B w0 (w.setCell ⟨g, i, none⟩ v) := Below.setCell h hg v
theorem msg_pu15b {w : World} {g B : Nat} {w0 : World} (v0 v1 v2 v3 v4 v5 v6 v7 v8 v9 v10 v11 v12 v13 v14 : Value) (h : Below B w0 w) (hg : B ≤ g) : Below B w0 (((((((((((((((w.setCell ⟨g, 0, none⟩ v0).setCell ⟨g, 1, none⟩ v1).setCell ⟨g, 2, none⟩ v2).setCell ⟨g, 3, none⟩ v3).setCell ⟨g, 4, none⟩ v4).setCell ⟨g, 5, none⟩ v5).setCell ⟨g, 6, none⟩ v6).setCell ⟨g, 7, none⟩ v7).setCell ⟨g, 8, none⟩ v8).setCell ⟨g, 9, none⟩ v9).setCell ⟨g, 10, none⟩ v10).setCell ⟨g, 11, none⟩ v11).setCell ⟨g, 12, none⟩ v12).setCell ⟨g, 13, none⟩ v13).setCell ⟨g, 14, none⟩ v14) := msg_pu1b (msg_pu1b (msg_pu1b (msg_pu1b (msg_pu1b (msg_pu1b (msg_pu1b (msg_pu1b (msg_pu1b (msg_pu1b (msg_pu1b (msg_pu1b (msg_pu1b (msg_pu1b (msg_pu1b h hg 0 _) hg 1 _) hg 2 _) hg 3 _) hg 4 _) hg 5 _) hg 6 _) hg 7 _) hg 8 _) hg 9 _) hg 10 _) hg 11 _) hg 12 _) hg 13 _) hg 14 _
set_option maxHeartbeats 2000000 in
theorem msg_pu15 {w : World} {g t : Nat} {z0 z1 z2 z3 z4 z5 z6 z7 z8 z9 z10 z11 z12 z13 z14 : Value} (v0 v1 v2 v3 v4 v5 v6 v7 v8 v9 v10 v11 v12 v13 v14 : Value) (h : w.heap[g]? = some (.cells #[z0, z1, z2, z3, z4, z5, z6, z7, z8, z9, z10, z11, z12, z13, z14] t (0, 0))) : (((((((((((((((w.setCell ⟨g, 0, none⟩ v0).setCell ⟨g, 1, none⟩ v1).setCell ⟨g, 2, none⟩ v2).setCell ⟨g, 3, none⟩ v3).setCell ⟨g, 4, none⟩ v4).setCell ⟨g, 5, none⟩ v5).setCell ⟨g, 6, none⟩ v6).setCell ⟨g, 7, none⟩ v7).setCell ⟨g, 8, none⟩ v8).setCell ⟨g, 9, none⟩ v9).setCell ⟨g, 10, none⟩ v10).setCell ⟨g, 11, none⟩ v11).setCell ⟨g, 12, none⟩ v12).setCell ⟨g, 13, none⟩ v13).setCell ⟨g, 14, none⟩ v14).heap[g]? = some (.cells #[v0, v1, v2, v3, v4, v5, v6, v7, v8, v9, v10, v11, v12, v13, v14] t (0, 0)) := by
  have h := blk_put (cs' := #[v0, z1, z2, z3, z4, z5, z6, z7, z8, z9, z10, z11, z12, z13, z14]) h 0 v0 rfl
  have h := blk_put (cs' := #[v0, v1, z2, z3, z4, z5, z6, z7, z8, z9, z10, z11, z12, z13, z14]) h 1 v1 rfl
  have h := blk_put (cs' := #[v0, v1, v2, z3, z4, z5, z6, z7, z8, z9, z10, z11, z12, z13, z14]) h 2 v2 rfl
  have h := blk_put (cs' := #[v0, v1, v2, v3, z4, z5, z6, z7, z8, z9, z10, z11, z12, z13, z14]) h 3 v3 rfl
  have h := blk_put (cs' := #[v0, v1, v2, v3, v4, z5, z6, z7, z8, z9, z10, z11, z12, z13, z14]) h 4 v4 rfl
  have h := blk_put (cs' := #[v0, v1, v2, v3, v4, v5, z6, z7, z8, z9, z10, z11, z12, z13, z14]) h 5 v5 rfl
  have h := blk_put (cs' := #[v0, v1, v2, v3, v4, v5, v6, z7, z8, z9, z10, z11, z12, z13, z14]) h 6 v6 rfl
  have h := blk_put (cs' := #[v0, v1, v2, v3, v4, v5, v6, v7, z8, z9, z10, z11, z12, z13, z14]) h 7 v7 rfl
  have h := blk_put (cs' := #[v0, v1, v2, v3, v4, v5, v6, v7, v8, z9, z10, z11, z12, z13, z14]) h 8 v8 rfl
  have h := blk_put (cs' := #[v0, v1, v2, v3, v4, v5, v6, v7, v8, v9, z10, z11, z12, z13, z14]) h 9 v9 rfl
  have h := blk_put (cs' := #[v0, v1, v2, v3, v4, v5, v6, v7, v8, v9, v10, z11, z12, z13, z14]) h 10 v10 rfl
  have h := blk_put (cs' := #[v0, v1, v2, v3, v4, v5, v6, v7, v8, v9, v10, v11, z12, z13, z14]) h 11 v11 rfl
  have h := blk_put (cs' := #[v0, v1, v2, v3, v4, v5, v6, v7, v8, v9, v10, v11, v12, z13, z14]) h 12 v12 rfl
  have h := blk_put (cs' := #[v0, v1, v2, v3, v4, v5, v6, v7, v8, v9, v10, v11, v12, v13, z14]) h 13 v13 rfl
  have h := blk_put (cs' := #[v0, v1, v2, v3, v4, v5, v6, v7, v8, v9, v10, v11, v12, v13, v14]) h 14 v14 rfl
  exact h
set_option maxHeartbeats 8000000 in
set_option maxRecDepth 100000 in
theorem msg_cut_big (k : Nat) (a0_0 : Int) (a0_1 : Int) (a0_2 : Int) (a0_3 : Int) (a0_4 : Int) (a0_5 : Int) (a0_6 : Int) (a0_7 : Int) (a0_8 : Int) (a0_9 : Int) (a0_10 : Int) (a0_11 : Int) (a0_12 : Int) (a0_13 : Int) (a0_14 : ByteArray) (a1 : Int) (A2 : Option Addr) (c2 : Nat) (l2 : List Int) (w : World) (hr2 : Kd.C (Kd.int .u8) w A2 l2.length l2) (hc2 : l2.length ≤ c2) (hup : fairleadlaw17_awake.f k = some true) (s1 : (a0_14.size : Int) > 2000) :
    Calls Try.prog 6 #[.agg #[.int .i64 a0_0, .int .u64 a0_1, .int .u64 a0_2, .int .i64 a0_3, .int .i64 a0_4, .int .u32 a0_5, .int .u32 a0_6, .int .u64 a0_7, .int .u64 a0_8, .int .u64 a0_9, .int .u64 a0_10, .int .u64 a0_11, .int .u64 a0_12, .int .u64 a0_13, .string a0_14], .int .i64 a1, .slice A2 l2.length c2] w fun e w' => e = .returned (.bool true) ∧ Below w.heap.size w w' := by
  have b1 : decide (2000 < (a0_14.size : Int)) = true := decide_eq_true s1
  have b2 : decide (2000 < a0_14.size) = true := decide_eq_true (by omega)
  have HUP := Aside0.mk hup
  clear hup s1
  go_enter Try.func6, Try.ntmps6
  go_wp2_with (first | ((with_reducible refine gate_dst (N := 3) rfl ?_); refine box_event ?hg (N := 3) ?hd (cs := #[.int .i64 a0_0, .int .u64 a0_1, .int .u64 a0_2, .int .i64 a0_3, .int .i64 a0_4, .int .u32 a0_5, .int .u32 a0_6, .int .u64 a0_7, .int .u64 a0_8, .int .u64 a0_9, .int .u64 a0_10, .int .u64 a0_11, .int .u64 a0_12, .int .u64 a0_13, .string a0_14]) (t := 28) ?hr ?_; (case hd => rfl); (case hg => rfl); (case hr => first | (go_simp; done) | (go_simp; rfl)); intro mb GM wm hbm hbb; obtain ⟨p0, p1, p2, p3, p4, p5, p6, p7, p8, p9, p10, p11, p12, p13, p14⟩ := msg_cells hbm; have HM := Aside0.mk hbm; have HB := Aside0.mk hbb; clear hbm hbb GM) | (go_at_call 8; (refine (fairleadlaw17_awake.calls k true _ HUP.out).mono ?_); rintro e w1 ⟨rfl, hB1⟩; clear p0 p1 p2 p3 p4 p5 p6 p7 p8 p9 p10 p11 p12 p13 p14; have HM1 := Aside0.mk (blk_below HM.out hB1); obtain ⟨p0, p1, p2, p3, p4, p5, p6, p7, p8, p9, p10, p11, p12, p13, p14⟩ := msg_cells HM1.out; have HB1 := Aside0.mk (HB.out.trans (hB1.mono HB.out.size)); clear hB1 HM HB))
  (repeat (go_step3; (try go_wp2)))
  go_ret
  exact ⟨rfl, HB1.out⟩
set_option maxHeartbeats 8000000 in
set_option maxRecDepth 100000 in
theorem msg_cut_long (k : Nat) (a0_0 : Int) (a0_1 : Int) (a0_2 : Int) (a0_3 : Int) (a0_4 : Int) (a0_5 : Int) (a0_6 : Int) (a0_7 : Int) (a0_8 : Int) (a0_9 : Int) (a0_10 : Int) (a0_11 : Int) (a0_12 : Int) (a0_13 : Int) (a0_14 : ByteArray) (a1 : Int) (A2 : Option Addr) (c2 : Nat) (l2 : List Int) (w : World) (hr2 : Kd.C (Kd.int .u8) w A2 l2.length l2) (hc2 : l2.length ≤ c2) (hup : fairleadlaw17_awake.f k = some true) (s1 : ¬ (a0_14.size : Int) > 2000) (s2 : (l2.length : Int) > 500) :
    Calls Try.prog 6 #[.agg #[.int .i64 a0_0, .int .u64 a0_1, .int .u64 a0_2, .int .i64 a0_3, .int .i64 a0_4, .int .u32 a0_5, .int .u32 a0_6, .int .u64 a0_7, .int .u64 a0_8, .int .u64 a0_9, .int .u64 a0_10, .int .u64 a0_11, .int .u64 a0_12, .int .u64 a0_13, .string a0_14], .int .i64 a1, .slice A2 l2.length c2] w fun e w' => e = .returned (.bool true) ∧ Below w.heap.size w w' := by
  have b1 : decide (2000 < (a0_14.size : Int)) = false := decide_eq_false (by omega)
  have b2 : decide (2000 < a0_14.size) = false := decide_eq_false (by omega)
  have b3 : decide (500 < (l2.length : Int)) = true := decide_eq_true s2
  have b4 : decide (500 < l2.length) = true := decide_eq_true (by omega)
  have HUP := Aside0.mk hup
  clear hup s1 s2
  go_enter Try.func6, Try.ntmps6
  go_wp2_with (first | ((with_reducible refine gate_dst (N := 3) rfl ?_); refine box_event ?hg (N := 3) ?hd (cs := #[.int .i64 a0_0, .int .u64 a0_1, .int .u64 a0_2, .int .i64 a0_3, .int .i64 a0_4, .int .u32 a0_5, .int .u32 a0_6, .int .u64 a0_7, .int .u64 a0_8, .int .u64 a0_9, .int .u64 a0_10, .int .u64 a0_11, .int .u64 a0_12, .int .u64 a0_13, .string a0_14]) (t := 28) ?hr ?_; (case hd => rfl); (case hg => rfl); (case hr => first | (go_simp; done) | (go_simp; rfl)); intro mb GM wm hbm hbb; obtain ⟨p0, p1, p2, p3, p4, p5, p6, p7, p8, p9, p10, p11, p12, p13, p14⟩ := msg_cells hbm; have HM := Aside0.mk hbm; have HB := Aside0.mk hbb; clear hbm hbb GM) | (go_at_call 8; (refine (fairleadlaw17_awake.calls k true _ HUP.out).mono ?_); rintro e w1 ⟨rfl, hB1⟩; clear p0 p1 p2 p3 p4 p5 p6 p7 p8 p9 p10 p11 p12 p13 p14; have HM1 := Aside0.mk (blk_below HM.out hB1); obtain ⟨p0, p1, p2, p3, p4, p5, p6, p7, p8, p9, p10, p11, p12, p13, p14⟩ := msg_cells HM1.out; have HB1 := Aside0.mk (HB.out.trans (hB1.mono HB.out.size)); clear hB1 HM HB))
  (repeat (go_step3; (try go_wp2)))
  go_ret
  exact ⟨rfl, HB1.out⟩
set_option maxHeartbeats 8000000 in
set_option maxRecDepth 100000 in
theorem msg_cut_neg (k : Nat) (a0_0 : Int) (a0_1 : Int) (a0_2 : Int) (a0_3 : Int) (a0_4 : Int) (a0_5 : Int) (a0_6 : Int) (a0_7 : Int) (a0_8 : Int) (a0_9 : Int) (a0_10 : Int) (a0_11 : Int) (a0_12 : Int) (a0_13 : Int) (a0_14 : ByteArray) (a1 : Int) (A2 : Option Addr) (c2 : Nat) (l2 : List Int) (w : World) (hr2 : Kd.C (Kd.int .u8) w A2 l2.length l2) (hc2 : l2.length ≤ c2) (hup : fairleadlaw17_awake.f k = some true) (s1 : ¬ (a0_14.size : Int) > 2000) (s2 : ¬ (l2.length : Int) > 500) (s3 : a1 < 0) :
    Calls Try.prog 6 #[.agg #[.int .i64 a0_0, .int .u64 a0_1, .int .u64 a0_2, .int .i64 a0_3, .int .i64 a0_4, .int .u32 a0_5, .int .u32 a0_6, .int .u64 a0_7, .int .u64 a0_8, .int .u64 a0_9, .int .u64 a0_10, .int .u64 a0_11, .int .u64 a0_12, .int .u64 a0_13, .string a0_14], .int .i64 a1, .slice A2 l2.length c2] w fun e w' => e = .returned (.bool true) ∧ Below w.heap.size w w' := by
  have b1 : decide (2000 < (a0_14.size : Int)) = false := decide_eq_false (by omega)
  have b2 : decide (2000 < a0_14.size) = false := decide_eq_false (by omega)
  have b3 : decide (500 < (l2.length : Int)) = false := decide_eq_false (by omega)
  have b4 : decide (500 < l2.length) = false := decide_eq_false (by omega)
  have b5 : decide (a1 < 0) = true := decide_eq_true s3
  have HUP := Aside0.mk hup
  clear hup s1 s2 s3
  go_enter Try.func6, Try.ntmps6
  go_wp2_with (first | ((with_reducible refine gate_dst (N := 3) rfl ?_); refine box_event ?hg (N := 3) ?hd (cs := #[.int .i64 a0_0, .int .u64 a0_1, .int .u64 a0_2, .int .i64 a0_3, .int .i64 a0_4, .int .u32 a0_5, .int .u32 a0_6, .int .u64 a0_7, .int .u64 a0_8, .int .u64 a0_9, .int .u64 a0_10, .int .u64 a0_11, .int .u64 a0_12, .int .u64 a0_13, .string a0_14]) (t := 28) ?hr ?_; (case hd => rfl); (case hg => rfl); (case hr => first | (go_simp; done) | (go_simp; rfl)); intro mb GM wm hbm hbb; obtain ⟨p0, p1, p2, p3, p4, p5, p6, p7, p8, p9, p10, p11, p12, p13, p14⟩ := msg_cells hbm; have HM := Aside0.mk hbm; have HB := Aside0.mk hbb; clear hbm hbb GM) | (go_at_call 8; (refine (fairleadlaw17_awake.calls k true _ HUP.out).mono ?_); rintro e w1 ⟨rfl, hB1⟩; clear p0 p1 p2 p3 p4 p5 p6 p7 p8 p9 p10 p11 p12 p13 p14; have HM1 := Aside0.mk (blk_below HM.out hB1); obtain ⟨p0, p1, p2, p3, p4, p5, p6, p7, p8, p9, p10, p11, p12, p13, p14⟩ := msg_cells HM1.out; have HB1 := Aside0.mk (HB.out.trans (hB1.mono HB.out.size)); clear hB1 HM HB))
  (repeat (go_step3; (try go_wp2)))
  go_ret
  exact ⟨rfl, HB1.out⟩
set_option maxHeartbeats 8000000 in
set_option maxRecDepth 100000 in
theorem msg_cut_err (k : Nat) (a0_0 : Int) (a0_1 : Int) (a0_2 : Int) (a0_3 : Int) (a0_4 : Int) (a0_5 : Int) (a0_6 : Int) (a0_7 : Int) (a0_8 : Int) (a0_9 : Int) (a0_10 : Int) (a0_11 : Int) (a0_12 : Int) (a0_13 : Int) (a0_14 : ByteArray) (a1 : Int) (A2 : Option Addr) (c2 : Nat) (l2 : List Int) (w : World) (hr2 : Kd.C (Kd.int .u8) w A2 l2.length l2) (hc2 : l2.length ≤ c2) (hup : fairleadlaw17_awake.f k = some true) (s1 : ¬ (a0_14.size : Int) > 2000) (s2 : ¬ (l2.length : Int) > 500) (s3 : ¬ a1 < 0) (e1 : Int) (he : e1 ≠ 0) (hen : msg_Encode.f k a0_0 a0_1 a0_2 a0_3 a0_4 a0_5 a0_6 a0_7 a0_8 a0_9 a0_10 a0_11 a0_12 a0_13 a0_14 = some ([], e1)) :
    Calls Try.prog 6 #[.agg #[.int .i64 a0_0, .int .u64 a0_1, .int .u64 a0_2, .int .i64 a0_3, .int .i64 a0_4, .int .u32 a0_5, .int .u32 a0_6, .int .u64 a0_7, .int .u64 a0_8, .int .u64 a0_9, .int .u64 a0_10, .int .u64 a0_11, .int .u64 a0_12, .int .u64 a0_13, .string a0_14], .int .i64 a1, .slice A2 l2.length c2] w fun e w' => e = .returned (.bool true) ∧ Below w.heap.size w w' := by
  have b1 : decide (2000 < (a0_14.size : Int)) = false := decide_eq_false (by omega)
  have b2 : decide (2000 < a0_14.size) = false := decide_eq_false (by omega)
  have b3 : decide (500 < (l2.length : Int)) = false := decide_eq_false (by omega)
  have b4 : decide (500 < l2.length) = false := decide_eq_false (by omega)
  have b5 : decide (a1 < 0) = false := decide_eq_false (by omega)
  have b6 : (e1 != 0) = true := bne_iff_ne.2 he
  have HUP := Aside0.mk hup
  have HEN := Aside0.mk hen
  clear hup hen s1 s2 s3
  go_enter Try.func6, Try.ntmps6
  go_wp2_with (first | ((with_reducible refine gate_dst (N := 3) rfl ?_); refine box_event ?hg (N := 3) ?hd (cs := #[.int .i64 a0_0, .int .u64 a0_1, .int .u64 a0_2, .int .i64 a0_3, .int .i64 a0_4, .int .u32 a0_5, .int .u32 a0_6, .int .u64 a0_7, .int .u64 a0_8, .int .u64 a0_9, .int .u64 a0_10, .int .u64 a0_11, .int .u64 a0_12, .int .u64 a0_13, .string a0_14]) (t := 28) ?hr ?_; (case hd => rfl); (case hg => rfl); (case hr => first | (go_simp; done) | (go_simp; rfl)); intro mb GM wm hbm hbb; obtain ⟨p0, p1, p2, p3, p4, p5, p6, p7, p8, p9, p10, p11, p12, p13, p14⟩ := msg_cells hbm; have HM := Aside0.mk hbm; have HB := Aside0.mk hbb; clear hbm hbb GM) | (go_at_call 8; (refine (fairleadlaw17_awake.calls k true _ HUP.out).mono ?_); rintro e w1 ⟨rfl, hB1⟩; clear p0 p1 p2 p3 p4 p5 p6 p7 p8 p9 p10 p11 p12 p13 p14; have HM1 := Aside0.mk (blk_below HM.out hB1); obtain ⟨p0, p1, p2, p3, p4, p5, p6, p7, p8, p9, p10, p11, p12, p13, p14⟩ := msg_cells HM1.out; have HB1 := Aside0.mk (HB.out.trans (hB1.mono HB.out.size)); clear hB1 HM HB) | (go_at_call 9; (with_reducible refine (msg_Encode.calls k a0_0 a0_1 a0_2 a0_3 a0_4 a0_5 a0_6 a0_7 a0_8 a0_9 a0_10 a0_11 a0_12 a0_13 a0_14 [] e1 _ HEN.out).mono ?_); rintro e w2 ⟨v2, rfl, hR2, hB2⟩; obtain ⟨AV, cpv, ev, hcp, hC⟩ := Kd.R_reads hR2; subst ev; have HB2 := Aside0.mk (HB1.out.trans (hB2.mono HB1.out.size)); clear hB2 hR2 hC hcp))
  (repeat (go_step3; (try go_wp2)))
  go_ret
  exact ⟨rfl, HB2.out⟩
set_option maxHeartbeats 8000000 in
set_option maxRecDepth 100000 in
theorem msg_cut_m0 (k : Nat) (a0_0 : Int) (a0_1 : Int) (a0_2 : Int) (a0_3 : Int) (a0_4 : Int) (a0_5 : Int) (a0_6 : Int) (a0_7 : Int) (a0_8 : Int) (a0_9 : Int) (a0_10 : Int) (a0_11 : Int) (a0_12 : Int) (a0_13 : Int) (a0_14 : ByteArray) (a1 : Int) (A2 : Option Addr) (c2 : Nat) (l2 : List Int) (w : World) (hr2 : Kd.C (Kd.int .u8) w A2 l2.length l2) (hc2 : l2.length ≤ c2) (hup : fairleadlaw17_awake.f k = some true) (s1 : ¬ (a0_14.size : Int) > 2000) (s2 : ¬ (l2.length : Int) > 500) (s3 : ¬ a1 < 0) (c : List Int) (hen : msg_Encode.f k a0_0 a0_1 a0_2 a0_3 a0_4 a0_5 a0_6 a0_7 a0_8 a0_9 a0_10 a0_11 a0_12 a0_13 a0_14 = some (c, 0)) (hc0 : 0 < c.length) (hcm : c.length ≤ 100000) (LT LM : List Int) (hLT : LT = c.take (Int.tmod a1 (c.length : Int)).toNat) (hLM : c ++ l2 = LM) (ht0 : 0 ≤ Int.tmod a1 (c.length : Int)) (ht1 : Int.tmod a1 (c.length : Int) ≤ (c.length : Int)) (hd1 : msg_Decode.f k LT = some (0, 0, 0, 0, 0, 0, 0, 0, 0, 0, 0, 0, 0, 0, ⟨#[]⟩, 2)) (hm : l2.length = 0) (hd2 : msg_Decode.f k LM = some (a0_0, a0_1, a0_2, a0_3, a0_4, a0_5, a0_6, a0_7, a0_8, a0_9, a0_10, a0_11, a0_12, a0_13, a0_14, 0)) :
    Calls Try.prog 6 #[.agg #[.int .i64 a0_0, .int .u64 a0_1, .int .u64 a0_2, .int .i64 a0_3, .int .i64 a0_4, .int .u32 a0_5, .int .u32 a0_6, .int .u64 a0_7, .int .u64 a0_8, .int .u64 a0_9, .int .u64 a0_10, .int .u64 a0_11, .int .u64 a0_12, .int .u64 a0_13, .string a0_14], .int .i64 a1, .slice A2 l2.length c2] w fun e w' => e = .returned (.bool true) ∧ Below w.heap.size w w' := by
  have b1 : decide (2000 < (a0_14.size : Int)) = false := decide_eq_false (by omega)
  have b2 : decide (2000 < a0_14.size) = false := decide_eq_false (by omega)
  have b3 : decide (500 < (l2.length : Int)) = false := decide_eq_false (by omega)
  have b4 : decide (500 < l2.length) = false := decide_eq_false (by omega)
  have b5 : decide (a1 < 0) = false := decide_eq_false (by omega)
  have n1 : ((c.length : Int) == 0) = false := beq_eq_false_iff_ne.2 (by omega)
  have n2 : (c.length == 0) = false := beq_eq_false_iff_ne.2 (by omega)
  have n3 : ¬ (c.length : Int) = 0 := by omega
  have n4 : ((c.length : Int) != 0) = true := bne_iff_ne.2 (by omega)
  have zt : IntKind.i64.wrap (Int.tmod a1 (c.length : Int)) = Int.tmod a1 (c.length : Int) := by rw [i64_w]; unfold wrap64; omega
  have m1 : ((l2.length : Int) == 0) = true := beq_iff_eq.2 (by omega)
  have m2 : (l2.length == 0) = true := beq_iff_eq.2 hm
  have hLTl : LT.length = (Int.tmod a1 (c.length : Int)).toNat := by rw [hLT, List.length_take]; omega
  obtain ⟨i5, hi5, _⟩ := Option.map_eq_some_iff.1 info5
  have HUP := Aside0.mk hup
  have HEN := Aside0.mk hen
  have HD1 := Aside0.mk hd1
  have HD2 := Aside0.mk hd2
  have HR2 := Aside0.mk hr2
  have HC2 := Aside0.mk hc2
  have HLT := Aside0.mk hLT
  have HLM := Aside0.mk hLM
  have HT0 := Aside0.mk ht0
  have HT1 := Aside0.mk ht1
  have HLTl := Aside0.mk hLTl
  have HCM := Aside0.mk hcm
  have HS2 := Aside0.mk s2
  clear hup hen hd1 hd2 hr2 hc2 hLT hLM ht0 ht1 hLTl hcm s1 s2 s3 hm hc0
  go_enter Try.func6, Try.ntmps6
  go_wp2_with (first | ((with_reducible refine gate_dst (N := 3) rfl ?_); refine box_event ?hg (N := 3) ?hd (cs := #[.int .i64 a0_0, .int .u64 a0_1, .int .u64 a0_2, .int .i64 a0_3, .int .i64 a0_4, .int .u32 a0_5, .int .u32 a0_6, .int .u64 a0_7, .int .u64 a0_8, .int .u64 a0_9, .int .u64 a0_10, .int .u64 a0_11, .int .u64 a0_12, .int .u64 a0_13, .string a0_14]) (t := 28) ?hr ?_; (case hd => rfl); (case hg => rfl); (case hr => first | (go_simp; done) | (go_simp; rfl)); intro mb GM wm hbm hbb; obtain ⟨p0, p1, p2, p3, p4, p5, p6, p7, p8, p9, p10, p11, p12, p13, p14⟩ := msg_cells hbm; have HM := Aside0.mk hbm; have HB := Aside0.mk hbb; clear hbm hbb GM) | (go_at_call 8; (refine (fairleadlaw17_awake.calls k true _ HUP.out).mono ?_); rintro e w1 ⟨rfl, hB1⟩; clear p0 p1 p2 p3 p4 p5 p6 p7 p8 p9 p10 p11 p12 p13 p14; have HM1 := Aside0.mk (blk_below HM.out hB1); obtain ⟨p0, p1, p2, p3, p4, p5, p6, p7, p8, p9, p10, p11, p12, p13, p14⟩ := msg_cells HM1.out; have HB1 := Aside0.mk (HB.out.trans (hB1.mono HB.out.size)); clear hB1 HM HB) | (go_at_call 9; (with_reducible refine (msg_Encode.calls k a0_0 a0_1 a0_2 a0_3 a0_4 a0_5 a0_6 a0_7 a0_8 a0_9 a0_10 a0_11 a0_12 a0_13 a0_14 c 0 _ HEN.out).mono ?_); rintro e w2 ⟨v2, rfl, hR, hB2⟩; obtain ⟨AV, cpv, ev, hcp, hC⟩ := Kd.R_reads hR; subst ev; have hsl : ∀ W : World, (Instr.slice 30 (.slice AV c.length cpv) none (some (.int .i64 (Int.tmod a1 (c.length : Int)))) none).run Try.prog W = .ok (.slice AV LT.length cpv) W := (fun W => by rw [HLTl.out]; exact cut_to 30 5 .i64 Try.underlying30 hi5 AV c.length cpv _ HT0.out HT1.out hcp W); have HCT := Aside0.mk (show Kd.C (Kd.int .u8) w2 AV LT.length LT from by rw [HLT.out]; exact Kd.C_take hC (by have := HT1.out; omega)); have HPT := Aside0.mk (show LT.length ≤ cpv from by have := HLTl.out; have := HT1.out; omega); clear p0 p1 p2 p3 p4 p5 p6 p7 p8 p9 p10 p11 p12 p13 p14; have HM2 := Aside0.mk (blk_below HM1.out hB2); obtain ⟨p0, p1, p2, p3, p4, p5, p6, p7, p8, p9, p10, p11, p12, p13, p14⟩ := msg_cells HM2.out; have HB2 := Aside0.mk (HB1.out.trans (hB2.mono HB1.out.size)); have HCV := Aside0.mk hC; have HPV := Aside0.mk hcp; clear hB2 hR hC hcp HM1 HB1) | (go_at_call 13; (with_reducible refine (msg_Decode.calls k AV cpv LT (0) (0) (0) (0) (0) (0) (0) (0) (0) (0) (0) (0) (0) (0) (⟨#[]⟩) 2 _ HCT.out HPT.out HD1.out).mono ?_); rintro e w3 ⟨rfl, hB3⟩; have HM3 := Aside0.mk (blk_below HM2.out hB3); have HX3 := Aside0.mk hB3; clear hB3) | ((with_reducible refine gate_dst (N := 10) rfl ?_); refine box_event ?hg (N := 10) ?hd (cs := #[.int .i64 0, .int .u64 0, .int .u64 0, .int .i64 0, .int .i64 0, .int .u32 0, .int .u32 0, .int .u64 0, .int .u64 0, .int .u64 0, .int .u64 0, .int .u64 0, .int .u64 0, .int .u64 0, .string ⟨#[]⟩]) (t := 28) ?hr ?_; (case hd => rfl); (case hg => rfl); (case hr => first | (go_simp; done) | (go_simp; rfl)); intro nba GN wna hbn hbb; have HGa := Aside0.mk GN; obtain ⟨na_0, na_1, na_2, na_3, na_4, na_5, na_6, na_7, na_8, na_9, na_10, na_11, na_12, na_13, na_14⟩ := msg_cells hbn; have hfna := blk_frozen hbn; have HA0 := Aside0.mk hbn; have HMA := Aside0.mk (blk_below HM3.out hbb); have HXA := Aside0.mk (HX3.out.trans (hbb.mono HX3.out.size)); have hne : mb ≠ nba := (fun e_ => by have := blk_lt HM3.out; omega); have hne2 := hne.symm; clear hbn GN hbb) | ((with_reducible refine gate_dst (N := 58) rfl ?_); have hA_ := msg_pu15 (.int .i64 0) (.int .u64 0) (.int .u64 0) (.int .i64 0) (.int .i64 0) (.int .u32 0) (.int .u32 0) (.int .u64 0) (.int .u64 0) (.int .u64 0) (.int .u64 0) (.int .u64 0) (.int .u64 0) (.int .u64 0) (.string ⟨#[]⟩) HA0.out; have hx_ := msg_pu15b (g := nba) (.int .i64 0) (.int .u64 0) (.int .u64 0) (.int .i64 0) (.int .i64 0) (.int .u32 0) (.int .u32 0) (.int .u64 0) (.int .u64 0) (.int .u64 0) (.int .u64 0) (.int .u64 0) (.int .u64 0) (.int .u64 0) (.string ⟨#[]⟩) HXA.out (by have := HGa.out; have := HX3.out.size; omega); have hM_ := (blk_far (blk_far (blk_far (blk_far (blk_far (blk_far (blk_far (blk_far (blk_far (blk_far (blk_far (blk_far (blk_far (blk_far (blk_far HMA.out (p := ⟨nba, 0, none⟩) hne (.int .i64 0)) (p := ⟨nba, 1, none⟩) hne (.int .u64 0)) (p := ⟨nba, 2, none⟩) hne (.int .u64 0)) (p := ⟨nba, 3, none⟩) hne (.int .i64 0)) (p := ⟨nba, 4, none⟩) hne (.int .i64 0)) (p := ⟨nba, 5, none⟩) hne (.int .u32 0)) (p := ⟨nba, 6, none⟩) hne (.int .u32 0)) (p := ⟨nba, 7, none⟩) hne (.int .u64 0)) (p := ⟨nba, 8, none⟩) hne (.int .u64 0)) (p := ⟨nba, 9, none⟩) hne (.int .u64 0)) (p := ⟨nba, 10, none⟩) hne (.int .u64 0)) (p := ⟨nba, 11, none⟩) hne (.int .u64 0)) (p := ⟨nba, 12, none⟩) hne (.int .u64 0)) (p := ⟨nba, 13, none⟩) hne (.int .u64 0)) (p := ⟨nba, 14, none⟩) hne (.string ⟨#[]⟩)); refine Kd.R_lit (Kd.int .u8) w2.heap.size 5 (w0 := w2) ?hg (N := 58) ?hd (xs := ([] : List Int)) (inner := []) (ok := fun _ => True) (okp := fun _ => True) ?hr ?hp (fun _ hk => hk) trivial hx_ hx_.size (by simp) ?_; (case hd => rfl); (case hg => rfl); (case hr => first | (go_simp; done) | (go_simp; rfl)); (case hp => exact (Reps.none _ _)); intro v5 w5 ho hb hg_ hnew_; have HO5 := Aside0.mk ho; have HB5 := Aside0.mk hb; have HC5 := Aside0.mk (Kd.C_below HCV.out hb); have HA5 := Aside0.mk (blk_grown hA_ hg_ (by simp)); have HM5 := Aside0.mk (blk_grown hM_ hg_ (by simp)); clear ho hb hg_ hnew_ hA_ hM_ hx_) | (at_builtin; refine Kd.R_append_row (Value.int .u8) 0 (w0 := w2) w2.heap.size rfl (.tmp 58) (.tmp 59) 30 5 (.int .u8 0) 1 rfl Try.underlying30 info5 rfl (by decide) v5 [] c AV c.length cpv (fun _ => True) rfl rfl (fun _ _ => trivial) HO5.out HC5.out HB5.out HB5.out.size (by have := HCM.out; simp; omega) ?_; intro v6 w6 ho hb hg hat; rw [List.nil_append] at ho; have HO6 := Aside0.mk ho; have HB6 := Aside0.mk hb; have HA6 := Aside0.mk (blk_grown HA5.out hg (Kd.R_ne HO5.out HA5.out (by decide))); have HM6 := Aside0.mk (blk_grown HM5.out hg (Kd.R_ne HO5.out HM5.out (by decide))); have HC6 := Aside0.mk (Kd.C_below HR2.out (HB2.out.trans (hb.mono HB2.out.size))); clear ho hb hg hat) | (at_builtin; refine Kd.R_append_row (Value.int .u8) 0 (w0 := w2) w2.heap.size rfl (.tmp 60) (.tmp 61) 30 5 (.int .u8 0) 1 rfl Try.underlying30 info5 rfl (by decide) v6 c l2 A2 l2.length c2 (fun _ => True) rfl rfl (fun _ _ => trivial) HO6.out HC6.out HB6.out HB6.out.size (by have := HCM.out; have := HS2.out; omega) ?_; intro v7 w7 ho hb hg hat; rw [HLM.out] at ho; obtain ⟨A7, cp7, ev7, hcp7, hC7⟩ := Kd.R_reads ho; subst ev7; have HC7 := Aside0.mk (show Kd.C (Kd.int .u8) w7 A7 LM.length LM from hC7); have HP7 := Aside0.mk hcp7; have HB7 := Aside0.mk hb; have HA7 := Aside0.mk (blk_grown HA6.out hg (Kd.R_ne HO6.out HA6.out (by decide))); have HM7 := Aside0.mk (blk_grown HM6.out hg (Kd.R_ne HO6.out HM6.out (by decide))); clear ho hb hg hat hC7 hcp7) | (go_at_call 13; (with_reducible refine (msg_Decode.calls k A7 cp7 LM a0_0 a0_1 a0_2 a0_3 a0_4 a0_5 a0_6 a0_7 a0_8 a0_9 a0_10 a0_11 a0_12 a0_13 a0_14 0 _ HC7.out HP7.out HD2.out).mono ?_); rintro e w8 ⟨rfl, hB8⟩; have HB8 := Aside0.mk (HB7.out.trans (hB8.mono HB7.out.size)); have HA8 := Aside0.mk (blk_below HA7.out hB8); have HM8 := Aside0.mk (blk_below HM7.out hB8); clear hB8) | ((with_reducible refine gate_dst (N := 12) rfl ?_); refine box_event ?hg (N := 12) ?hd (cs := #[.int .i64 0, .int .u64 0, .int .u64 0, .int .i64 0, .int .i64 0, .int .u32 0, .int .u32 0, .int .u64 0, .int .u64 0, .int .u64 0, .int .u64 0, .int .u64 0, .int .u64 0, .int .u64 0, .string ⟨#[]⟩]) (t := 28) ?hr ?_; (case hd => rfl); (case hg => rfl); (case hr => first | (go_simp; done) | (go_simp; rfl)); intro nbb GN wnb hbn hbb; have HGb := Aside0.mk GN; obtain ⟨nb_0, nb_1, nb_2, nb_3, nb_4, nb_5, nb_6, nb_7, nb_8, nb_9, nb_10, nb_11, nb_12, nb_13, nb_14⟩ := msg_cells hbn; have hfnb := blk_frozen hbn; have HBN := Aside0.mk (HB8.out.trans (hbb.mono HB8.out.size)); have ha_ := blk_below HA8.out hbb; have hm_ := blk_below HM8.out hbb; obtain ⟨xa_0, xa_1, xa_2, xa_3, xa_4, xa_5, xa_6, xa_7, xa_8, xa_9, xa_10, xa_11, xa_12, xa_13, xa_14⟩ := msg_cells ha_; clear p0 p1 p2 p3 p4 p5 p6 p7 p8 p9 p10 p11 p12 p13 p14; obtain ⟨p0, p1, p2, p3, p4, p5, p6, p7, p8, p9, p10, p11, p12, p13, p14⟩ := msg_cells hm_; have hnf : mb ≠ nbb := (fun e_ => by have := blk_lt HM8.out; omega); have hnf2 := hnf.symm; have hng : nba ≠ nbb := (fun e_ => by have := blk_lt HA8.out; omega); have hng2 := hng.symm; clear hbn GN hbb ha_ hm_))
  go_ret
  exact ⟨rfl, HB2.out.trans ((msg_pu15b (g := nbb) _ _ _ _ _ _ _ _ _ _ _ _ _ _ _ HBN.out (by have := HGb.out; have := HB8.out.size; omega)).mono HB2.out.size)⟩
set_option maxHeartbeats 8000000 in
set_option maxRecDepth 100000 in
theorem msg_cut_m1 (k : Nat) (a0_0 : Int) (a0_1 : Int) (a0_2 : Int) (a0_3 : Int) (a0_4 : Int) (a0_5 : Int) (a0_6 : Int) (a0_7 : Int) (a0_8 : Int) (a0_9 : Int) (a0_10 : Int) (a0_11 : Int) (a0_12 : Int) (a0_13 : Int) (a0_14 : ByteArray) (a1 : Int) (A2 : Option Addr) (c2 : Nat) (l2 : List Int) (w : World) (hr2 : Kd.C (Kd.int .u8) w A2 l2.length l2) (hc2 : l2.length ≤ c2) (hup : fairleadlaw17_awake.f k = some true) (s1 : ¬ (a0_14.size : Int) > 2000) (s2 : ¬ (l2.length : Int) > 500) (s3 : ¬ a1 < 0) (c : List Int) (hen : msg_Encode.f k a0_0 a0_1 a0_2 a0_3 a0_4 a0_5 a0_6 a0_7 a0_8 a0_9 a0_10 a0_11 a0_12 a0_13 a0_14 = some (c, 0)) (hc0 : 0 < c.length) (hcm : c.length ≤ 100000) (LT LM : List Int) (hLT : LT = c.take (Int.tmod a1 (c.length : Int)).toNat) (hLM : c ++ l2 = LM) (ht0 : 0 ≤ Int.tmod a1 (c.length : Int)) (ht1 : Int.tmod a1 (c.length : Int) ≤ (c.length : Int)) (hd1 : msg_Decode.f k LT = some (0, 0, 0, 0, 0, 0, 0, 0, 0, 0, 0, 0, 0, 0, ⟨#[]⟩, 2)) (hm : ¬ l2.length = 0) (hd2 : msg_Decode.f k LM = some (0, 0, 0, 0, 0, 0, 0, 0, 0, 0, 0, 0, 0, 0, ⟨#[]⟩, 3)) :
    Calls Try.prog 6 #[.agg #[.int .i64 a0_0, .int .u64 a0_1, .int .u64 a0_2, .int .i64 a0_3, .int .i64 a0_4, .int .u32 a0_5, .int .u32 a0_6, .int .u64 a0_7, .int .u64 a0_8, .int .u64 a0_9, .int .u64 a0_10, .int .u64 a0_11, .int .u64 a0_12, .int .u64 a0_13, .string a0_14], .int .i64 a1, .slice A2 l2.length c2] w fun e w' => e = .returned (.bool true) ∧ Below w.heap.size w w' := by
  have b1 : decide (2000 < (a0_14.size : Int)) = false := decide_eq_false (by omega)
  have b2 : decide (2000 < a0_14.size) = false := decide_eq_false (by omega)
  have b3 : decide (500 < (l2.length : Int)) = false := decide_eq_false (by omega)
  have b4 : decide (500 < l2.length) = false := decide_eq_false (by omega)
  have b5 : decide (a1 < 0) = false := decide_eq_false (by omega)
  have n1 : ((c.length : Int) == 0) = false := beq_eq_false_iff_ne.2 (by omega)
  have n2 : (c.length == 0) = false := beq_eq_false_iff_ne.2 (by omega)
  have n3 : ¬ (c.length : Int) = 0 := by omega
  have n4 : ((c.length : Int) != 0) = true := bne_iff_ne.2 (by omega)
  have zt : IntKind.i64.wrap (Int.tmod a1 (c.length : Int)) = Int.tmod a1 (c.length : Int) := by rw [i64_w]; unfold wrap64; omega
  have m1 : ((l2.length : Int) == 0) = false := beq_eq_false_iff_ne.2 (by omega)
  have m2 : (l2.length == 0) = false := beq_eq_false_iff_ne.2 hm
  have m3 : decide (0 < (l2.length : Int)) = true := decide_eq_true (by omega)
  have m4 : decide (0 < l2.length) = true := decide_eq_true (by omega)
  have hLTl : LT.length = (Int.tmod a1 (c.length : Int)).toNat := by rw [hLT, List.length_take]; omega
  obtain ⟨i5, hi5, _⟩ := Option.map_eq_some_iff.1 info5
  have HUP := Aside0.mk hup
  have HEN := Aside0.mk hen
  have HD1 := Aside0.mk hd1
  have HD2 := Aside0.mk hd2
  have HR2 := Aside0.mk hr2
  have HC2 := Aside0.mk hc2
  have HLT := Aside0.mk hLT
  have HLM := Aside0.mk hLM
  have HT0 := Aside0.mk ht0
  have HT1 := Aside0.mk ht1
  have HLTl := Aside0.mk hLTl
  have HCM := Aside0.mk hcm
  have HS2 := Aside0.mk s2
  clear hup hen hd1 hd2 hr2 hc2 hLT hLM ht0 ht1 hLTl hcm s1 s2 s3 hm hc0
  go_enter Try.func6, Try.ntmps6
  go_wp2_with (first | ((with_reducible refine gate_dst (N := 3) rfl ?_); refine box_event ?hg (N := 3) ?hd (cs := #[.int .i64 a0_0, .int .u64 a0_1, .int .u64 a0_2, .int .i64 a0_3, .int .i64 a0_4, .int .u32 a0_5, .int .u32 a0_6, .int .u64 a0_7, .int .u64 a0_8, .int .u64 a0_9, .int .u64 a0_10, .int .u64 a0_11, .int .u64 a0_12, .int .u64 a0_13, .string a0_14]) (t := 28) ?hr ?_; (case hd => rfl); (case hg => rfl); (case hr => first | (go_simp; done) | (go_simp; rfl)); intro mb GM wm hbm hbb; obtain ⟨p0, p1, p2, p3, p4, p5, p6, p7, p8, p9, p10, p11, p12, p13, p14⟩ := msg_cells hbm; have HM := Aside0.mk hbm; have HB := Aside0.mk hbb; clear hbm hbb GM) | (go_at_call 8; (refine (fairleadlaw17_awake.calls k true _ HUP.out).mono ?_); rintro e w1 ⟨rfl, hB1⟩; clear p0 p1 p2 p3 p4 p5 p6 p7 p8 p9 p10 p11 p12 p13 p14; have HM1 := Aside0.mk (blk_below HM.out hB1); obtain ⟨p0, p1, p2, p3, p4, p5, p6, p7, p8, p9, p10, p11, p12, p13, p14⟩ := msg_cells HM1.out; have HB1 := Aside0.mk (HB.out.trans (hB1.mono HB.out.size)); clear hB1 HM HB) | (go_at_call 9; (with_reducible refine (msg_Encode.calls k a0_0 a0_1 a0_2 a0_3 a0_4 a0_5 a0_6 a0_7 a0_8 a0_9 a0_10 a0_11 a0_12 a0_13 a0_14 c 0 _ HEN.out).mono ?_); rintro e w2 ⟨v2, rfl, hR, hB2⟩; obtain ⟨AV, cpv, ev, hcp, hC⟩ := Kd.R_reads hR; subst ev; have hsl : ∀ W : World, (Instr.slice 30 (.slice AV c.length cpv) none (some (.int .i64 (Int.tmod a1 (c.length : Int)))) none).run Try.prog W = .ok (.slice AV LT.length cpv) W := (fun W => by rw [HLTl.out]; exact cut_to 30 5 .i64 Try.underlying30 hi5 AV c.length cpv _ HT0.out HT1.out hcp W); have HCT := Aside0.mk (show Kd.C (Kd.int .u8) w2 AV LT.length LT from by rw [HLT.out]; exact Kd.C_take hC (by have := HT1.out; omega)); have HPT := Aside0.mk (show LT.length ≤ cpv from by have := HLTl.out; have := HT1.out; omega); clear p0 p1 p2 p3 p4 p5 p6 p7 p8 p9 p10 p11 p12 p13 p14; have HM2 := Aside0.mk (blk_below HM1.out hB2); obtain ⟨p0, p1, p2, p3, p4, p5, p6, p7, p8, p9, p10, p11, p12, p13, p14⟩ := msg_cells HM2.out; have HB2 := Aside0.mk (HB1.out.trans (hB2.mono HB1.out.size)); have HCV := Aside0.mk hC; have HPV := Aside0.mk hcp; clear hB2 hR hC hcp HM1 HB1) | (go_at_call 13; (with_reducible refine (msg_Decode.calls k AV cpv LT (0) (0) (0) (0) (0) (0) (0) (0) (0) (0) (0) (0) (0) (0) (⟨#[]⟩) 2 _ HCT.out HPT.out HD1.out).mono ?_); rintro e w3 ⟨rfl, hB3⟩; have HM3 := Aside0.mk (blk_below HM2.out hB3); have HX3 := Aside0.mk hB3; clear hB3) | ((with_reducible refine gate_dst (N := 10) rfl ?_); refine box_event ?hg (N := 10) ?hd (cs := #[.int .i64 0, .int .u64 0, .int .u64 0, .int .i64 0, .int .i64 0, .int .u32 0, .int .u32 0, .int .u64 0, .int .u64 0, .int .u64 0, .int .u64 0, .int .u64 0, .int .u64 0, .int .u64 0, .string ⟨#[]⟩]) (t := 28) ?hr ?_; (case hd => rfl); (case hg => rfl); (case hr => first | (go_simp; done) | (go_simp; rfl)); intro nba GN wna hbn hbb; have HGa := Aside0.mk GN; obtain ⟨na_0, na_1, na_2, na_3, na_4, na_5, na_6, na_7, na_8, na_9, na_10, na_11, na_12, na_13, na_14⟩ := msg_cells hbn; have hfna := blk_frozen hbn; have HA0 := Aside0.mk hbn; have HMA := Aside0.mk (blk_below HM3.out hbb); have HXA := Aside0.mk (HX3.out.trans (hbb.mono HX3.out.size)); have hne : mb ≠ nba := (fun e_ => by have := blk_lt HM3.out; omega); have hne2 := hne.symm; clear hbn GN hbb) | ((with_reducible refine gate_dst (N := 58) rfl ?_); have hA_ := msg_pu15 (.int .i64 0) (.int .u64 0) (.int .u64 0) (.int .i64 0) (.int .i64 0) (.int .u32 0) (.int .u32 0) (.int .u64 0) (.int .u64 0) (.int .u64 0) (.int .u64 0) (.int .u64 0) (.int .u64 0) (.int .u64 0) (.string ⟨#[]⟩) HA0.out; have hx_ := msg_pu15b (g := nba) (.int .i64 0) (.int .u64 0) (.int .u64 0) (.int .i64 0) (.int .i64 0) (.int .u32 0) (.int .u32 0) (.int .u64 0) (.int .u64 0) (.int .u64 0) (.int .u64 0) (.int .u64 0) (.int .u64 0) (.int .u64 0) (.string ⟨#[]⟩) HXA.out (by have := HGa.out; have := HX3.out.size; omega); have hM_ := (blk_far (blk_far (blk_far (blk_far (blk_far (blk_far (blk_far (blk_far (blk_far (blk_far (blk_far (blk_far (blk_far (blk_far (blk_far HMA.out (p := ⟨nba, 0, none⟩) hne (.int .i64 0)) (p := ⟨nba, 1, none⟩) hne (.int .u64 0)) (p := ⟨nba, 2, none⟩) hne (.int .u64 0)) (p := ⟨nba, 3, none⟩) hne (.int .i64 0)) (p := ⟨nba, 4, none⟩) hne (.int .i64 0)) (p := ⟨nba, 5, none⟩) hne (.int .u32 0)) (p := ⟨nba, 6, none⟩) hne (.int .u32 0)) (p := ⟨nba, 7, none⟩) hne (.int .u64 0)) (p := ⟨nba, 8, none⟩) hne (.int .u64 0)) (p := ⟨nba, 9, none⟩) hne (.int .u64 0)) (p := ⟨nba, 10, none⟩) hne (.int .u64 0)) (p := ⟨nba, 11, none⟩) hne (.int .u64 0)) (p := ⟨nba, 12, none⟩) hne (.int .u64 0)) (p := ⟨nba, 13, none⟩) hne (.int .u64 0)) (p := ⟨nba, 14, none⟩) hne (.string ⟨#[]⟩)); refine Kd.R_lit (Kd.int .u8) w2.heap.size 5 (w0 := w2) ?hg (N := 58) ?hd (xs := ([] : List Int)) (inner := []) (ok := fun _ => True) (okp := fun _ => True) ?hr ?hp (fun _ hk => hk) trivial hx_ hx_.size (by simp) ?_; (case hd => rfl); (case hg => rfl); (case hr => first | (go_simp; done) | (go_simp; rfl)); (case hp => exact (Reps.none _ _)); intro v5 w5 ho hb hg_ hnew_; have HO5 := Aside0.mk ho; have HB5 := Aside0.mk hb; have HC5 := Aside0.mk (Kd.C_below HCV.out hb); have HA5 := Aside0.mk (blk_grown hA_ hg_ (by simp)); have HM5 := Aside0.mk (blk_grown hM_ hg_ (by simp)); clear ho hb hg_ hnew_ hA_ hM_ hx_) | (at_builtin; refine Kd.R_append_row (Value.int .u8) 0 (w0 := w2) w2.heap.size rfl (.tmp 58) (.tmp 59) 30 5 (.int .u8 0) 1 rfl Try.underlying30 info5 rfl (by decide) v5 [] c AV c.length cpv (fun _ => True) rfl rfl (fun _ _ => trivial) HO5.out HC5.out HB5.out HB5.out.size (by have := HCM.out; simp; omega) ?_; intro v6 w6 ho hb hg hat; rw [List.nil_append] at ho; have HO6 := Aside0.mk ho; have HB6 := Aside0.mk hb; have HA6 := Aside0.mk (blk_grown HA5.out hg (Kd.R_ne HO5.out HA5.out (by decide))); have HM6 := Aside0.mk (blk_grown HM5.out hg (Kd.R_ne HO5.out HM5.out (by decide))); have HC6 := Aside0.mk (Kd.C_below HR2.out (HB2.out.trans (hb.mono HB2.out.size))); clear ho hb hg hat) | (at_builtin; refine Kd.R_append_row (Value.int .u8) 0 (w0 := w2) w2.heap.size rfl (.tmp 60) (.tmp 61) 30 5 (.int .u8 0) 1 rfl Try.underlying30 info5 rfl (by decide) v6 c l2 A2 l2.length c2 (fun _ => True) rfl rfl (fun _ _ => trivial) HO6.out HC6.out HB6.out HB6.out.size (by have := HCM.out; have := HS2.out; omega) ?_; intro v7 w7 ho hb hg hat; rw [HLM.out] at ho; obtain ⟨A7, cp7, ev7, hcp7, hC7⟩ := Kd.R_reads ho; subst ev7; have HC7 := Aside0.mk (show Kd.C (Kd.int .u8) w7 A7 LM.length LM from hC7); have HP7 := Aside0.mk hcp7; have HB7 := Aside0.mk hb; have HA7 := Aside0.mk (blk_grown HA6.out hg (Kd.R_ne HO6.out HA6.out (by decide))); have HM7 := Aside0.mk (blk_grown HM6.out hg (Kd.R_ne HO6.out HM6.out (by decide))); clear ho hb hg hat hC7 hcp7) | (go_at_call 13; (with_reducible refine (msg_Decode.calls k A7 cp7 LM (0) (0) (0) (0) (0) (0) (0) (0) (0) (0) (0) (0) (0) (0) (⟨#[]⟩) 3 _ HC7.out HP7.out HD2.out).mono ?_); rintro e w8 ⟨rfl, hB8⟩; have HB8 := Aside0.mk (HB7.out.trans (hB8.mono HB7.out.size)); have HA8 := Aside0.mk (blk_below HA7.out hB8); have HM8 := Aside0.mk (blk_below HM7.out hB8); clear hB8) | ((with_reducible refine gate_dst (N := 12) rfl ?_); refine box_event ?hg (N := 12) ?hd (cs := #[.int .i64 0, .int .u64 0, .int .u64 0, .int .i64 0, .int .i64 0, .int .u32 0, .int .u32 0, .int .u64 0, .int .u64 0, .int .u64 0, .int .u64 0, .int .u64 0, .int .u64 0, .int .u64 0, .string ⟨#[]⟩]) (t := 28) ?hr ?_; (case hd => rfl); (case hg => rfl); (case hr => first | (go_simp; done) | (go_simp; rfl)); intro nbb GN wnb hbn hbb; have HGb := Aside0.mk GN; obtain ⟨nb_0, nb_1, nb_2, nb_3, nb_4, nb_5, nb_6, nb_7, nb_8, nb_9, nb_10, nb_11, nb_12, nb_13, nb_14⟩ := msg_cells hbn; have hfnb := blk_frozen hbn; have HBN := Aside0.mk (HB8.out.trans (hbb.mono HB8.out.size)); have ha_ := blk_below HA8.out hbb; have hm_ := blk_below HM8.out hbb; obtain ⟨xa_0, xa_1, xa_2, xa_3, xa_4, xa_5, xa_6, xa_7, xa_8, xa_9, xa_10, xa_11, xa_12, xa_13, xa_14⟩ := msg_cells ha_; clear p0 p1 p2 p3 p4 p5 p6 p7 p8 p9 p10 p11 p12 p13 p14; obtain ⟨p0, p1, p2, p3, p4, p5, p6, p7, p8, p9, p10, p11, p12, p13, p14⟩ := msg_cells hm_; have hnf : mb ≠ nbb := (fun e_ => by have := blk_lt HM8.out; omega); have hnf2 := hnf.symm; have hng : nba ≠ nbb := (fun e_ => by have := blk_lt HA8.out; omega); have hng2 := hng.symm; clear hbn GN hbb ha_ hm_))
  go_ret
  exact ⟨rfl, HB2.out.trans ((msg_pu15b (g := nbb) _ _ _ _ _ _ _ _ _ _ _ _ _ _ _ HBN.out (by have := HGb.out; have := HB8.out.size; omega)).mono HB2.out.size)⟩
def fairleadlaw17_MsgCut.g (k : Nat) (a0_0 : Int) (a0_1 : Int) (a0_2 : Int) (a0_3 : Int) (a0_4 : Int) (a0_5 : Int) (a0_6 : Int) (a0_7 : Int) (a0_8 : Int) (a0_9 : Int) (a0_10 : Int) (a0_11 : Int) (a0_12 : Int) (a0_13 : Int) (a0_14 : ByteArray) (c l2 : List Int) : Option Bool := (msg_Decode.f k (c ++ l2)).bind fun n => if l2.length = 0 then (if n.1 = a0_0 ∧ n.2.1 = a0_1 ∧ n.2.2.1 = a0_2 ∧ n.2.2.2.1 = a0_3 ∧ n.2.2.2.2.1 = a0_4 ∧ n.2.2.2.2.2.1 = a0_5 ∧ n.2.2.2.2.2.2.1 = a0_6 ∧ n.2.2.2.2.2.2.2.1 = a0_7 ∧ n.2.2.2.2.2.2.2.2.1 = a0_8 ∧ n.2.2.2.2.2.2.2.2.2.1 = a0_9 ∧ n.2.2.2.2.2.2.2.2.2.2.1 = a0_10 ∧ n.2.2.2.2.2.2.2.2.2.2.2.1 = a0_11 ∧ n.2.2.2.2.2.2.2.2.2.2.2.2.1 = a0_12 ∧ n.2.2.2.2.2.2.2.2.2.2.2.2.2.1 = a0_13 ∧ n.2.2.2.2.2.2.2.2.2.2.2.2.2.2.1 = a0_14 ∧ n.2.2.2.2.2.2.2.2.2.2.2.2.2.2.2 = 0 then some true else none) else (if n.1 = 0 ∧ n.2.1 = 0 ∧ n.2.2.1 = 0 ∧ n.2.2.2.1 = 0 ∧ n.2.2.2.2.1 = 0 ∧ n.2.2.2.2.2.1 = 0 ∧ n.2.2.2.2.2.2.1 = 0 ∧ n.2.2.2.2.2.2.2.1 = 0 ∧ n.2.2.2.2.2.2.2.2.1 = 0 ∧ n.2.2.2.2.2.2.2.2.2.1 = 0 ∧ n.2.2.2.2.2.2.2.2.2.2.1 = 0 ∧ n.2.2.2.2.2.2.2.2.2.2.2.1 = 0 ∧ n.2.2.2.2.2.2.2.2.2.2.2.2.1 = 0 ∧ n.2.2.2.2.2.2.2.2.2.2.2.2.2.1 = 0 ∧ n.2.2.2.2.2.2.2.2.2.2.2.2.2.2.1 = (⟨#[]⟩ : ByteArray) ∧ n.2.2.2.2.2.2.2.2.2.2.2.2.2.2.2 = 3 then some true else none)
def fairleadlaw17_MsgCut.f (k : Nat) (a0_0 : Int) (a0_1 : Int) (a0_2 : Int) (a0_3 : Int) (a0_4 : Int) (a0_5 : Int) (a0_6 : Int) (a0_7 : Int) (a0_8 : Int) (a0_9 : Int) (a0_10 : Int) (a0_11 : Int) (a0_12 : Int) (a0_13 : Int) (a0_14 : ByteArray) (a1 : Int) (l2 : List Int) : Option Bool := (fairleadlaw17_awake.f k).bind fun up => if up = true then (if (a0_14.size : Int) > 2000 then some true else (if (l2.length : Int) > 500 then some true else (if a1 < 0 then some true else ((msg_Encode.f k a0_0 a0_1 a0_2 a0_3 a0_4 a0_5 a0_6 a0_7 a0_8 a0_9 a0_10 a0_11 a0_12 a0_13 a0_14).bind fun c => if c.2 = 0 then (if 0 < c.1.length ∧ c.1.length ≤ 100000 ∧ 0 ≤ Int.tmod a1 (c.1.length : Int) ∧ Int.tmod a1 (c.1.length : Int) ≤ (c.1.length : Int) then ((msg_Decode.f k (c.1.take (Int.tmod a1 (c.1.length : Int)).toNat)).bind fun n => if n.1 = 0 ∧ n.2.1 = 0 ∧ n.2.2.1 = 0 ∧ n.2.2.2.1 = 0 ∧ n.2.2.2.2.1 = 0 ∧ n.2.2.2.2.2.1 = 0 ∧ n.2.2.2.2.2.2.1 = 0 ∧ n.2.2.2.2.2.2.2.1 = 0 ∧ n.2.2.2.2.2.2.2.2.1 = 0 ∧ n.2.2.2.2.2.2.2.2.2.1 = 0 ∧ n.2.2.2.2.2.2.2.2.2.2.1 = 0 ∧ n.2.2.2.2.2.2.2.2.2.2.2.1 = 0 ∧ n.2.2.2.2.2.2.2.2.2.2.2.2.1 = 0 ∧ n.2.2.2.2.2.2.2.2.2.2.2.2.2.1 = 0 ∧ n.2.2.2.2.2.2.2.2.2.2.2.2.2.2.1 = (⟨#[]⟩ : ByteArray) ∧ n.2.2.2.2.2.2.2.2.2.2.2.2.2.2.2 = 2 then fairleadlaw17_MsgCut.g k a0_0 a0_1 a0_2 a0_3 a0_4 a0_5 a0_6 a0_7 a0_8 a0_9 a0_10 a0_11 a0_12 a0_13 a0_14 c.1 l2 else none) else none) else (if c.1 = [] then some true else none))))) else none
set_option maxHeartbeats 8000000 in
set_option maxRecDepth 100000 in
theorem fairleadlaw17_MsgCut.calls (k : Nat) (a0_0 : Int) (a0_1 : Int) (a0_2 : Int) (a0_3 : Int) (a0_4 : Int) (a0_5 : Int) (a0_6 : Int) (a0_7 : Int) (a0_8 : Int) (a0_9 : Int) (a0_10 : Int) (a0_11 : Int) (a0_12 : Int) (a0_13 : Int) (a0_14 : ByteArray) (a1 : Int) (A2 : Option Addr) (c2 : Nat) (l2 : List Int) (r : Bool) (w : World) (hr2 : Kd.C (Kd.int .u8) w A2 l2.length l2) (hc2 : l2.length ≤ c2) (h : fairleadlaw17_MsgCut.f k a0_0 a0_1 a0_2 a0_3 a0_4 a0_5 a0_6 a0_7 a0_8 a0_9 a0_10 a0_11 a0_12 a0_13 a0_14 a1 l2 = some r) :
    Calls Try.prog 6 #[.agg #[.int .i64 a0_0, .int .u64 a0_1, .int .u64 a0_2, .int .i64 a0_3, .int .i64 a0_4, .int .u32 a0_5, .int .u32 a0_6, .int .u64 a0_7, .int .u64 a0_8, .int .u64 a0_9, .int .u64 a0_10, .int .u64 a0_11, .int .u64 a0_12, .int .u64 a0_13, .string a0_14], .int .i64 a1, .slice A2 l2.length c2] w fun e w' => e = .returned (.bool r) ∧ Below w.heap.size w w' := by
  unfold fairleadlaw17_MsgCut.f at h
  replace h := Option.bind_eq_some_iff.mp h
  obtain ⟨up, hup, h⟩ := h
  cases up with
  | false => rw [if_neg (by decide)] at h; cases h
  | true =>
    rw [if_pos rfl] at h
    by_cases s1 : (a0_14.size : Int) > 2000
    · rw [if_pos s1] at h
      obtain rfl := Option.some.inj h
      exact msg_cut_big k a0_0 a0_1 a0_2 a0_3 a0_4 a0_5 a0_6 a0_7 a0_8 a0_9 a0_10 a0_11 a0_12 a0_13 a0_14 a1 A2 c2 l2 w hr2 hc2 hup s1
    · rw [if_neg s1] at h
      by_cases s2 : (l2.length : Int) > 500
      · rw [if_pos s2] at h
        obtain rfl := Option.some.inj h
        exact msg_cut_long k a0_0 a0_1 a0_2 a0_3 a0_4 a0_5 a0_6 a0_7 a0_8 a0_9 a0_10 a0_11 a0_12 a0_13 a0_14 a1 A2 c2 l2 w hr2 hc2 hup s1 s2
      · rw [if_neg s2] at h
        by_cases s3 : a1 < 0
        · rw [if_pos s3] at h
          obtain rfl := Option.some.inj h
          exact msg_cut_neg k a0_0 a0_1 a0_2 a0_3 a0_4 a0_5 a0_6 a0_7 a0_8 a0_9 a0_10 a0_11 a0_12 a0_13 a0_14 a1 A2 c2 l2 w hr2 hc2 hup s1 s2 s3
        · rw [if_neg s3] at h
          replace h := Option.bind_eq_some_iff.mp h
          obtain ⟨⟨c, e1⟩, hen, h⟩ := h
          simp only at h
          by_cases he : e1 = 0
          · rw [if_pos he] at h
            by_cases hq : 0 < c.length ∧ c.length ≤ 100000 ∧ 0 ≤ Int.tmod a1 (c.length : Int) ∧ Int.tmod a1 (c.length : Int) ≤ (c.length : Int)
            · rw [if_pos hq] at h
              replace h := Option.bind_eq_some_iff.mp h
              obtain ⟨⟨x0, x1, x2, x3, x4, x5, x6, x7, x8, x9, x10, x11, x12, x13, x14, xe⟩, hd1, h⟩ := h
              simp only at h
              by_cases hn : x0 = 0 ∧ x1 = 0 ∧ x2 = 0 ∧ x3 = 0 ∧ x4 = 0 ∧ x5 = 0 ∧ x6 = 0 ∧ x7 = 0 ∧ x8 = 0 ∧ x9 = 0 ∧ x10 = 0 ∧ x11 = 0 ∧ x12 = 0 ∧ x13 = 0 ∧ x14 = (⟨#[]⟩ : ByteArray) ∧ xe = 2
              · rw [if_pos hn] at h
                obtain ⟨q0, q1, q2, q3, q4, q5, q6, q7, q8, q9, q10, q11, q12, q13, q14, qe⟩ := hn
                subst q0 q1 q2 q3 q4 q5 q6 q7 q8 q9 q10 q11 q12 q13 q14 qe he
                unfold fairleadlaw17_MsgCut.g at h
                replace h := Option.bind_eq_some_iff.mp h
                obtain ⟨⟨y0, y1, y2, y3, y4, y5, y6, y7, y8, y9, y10, y11, y12, y13, y14, ye⟩, hd2, h⟩ := h
                simp only at h
                by_cases hm : l2.length = 0
                · rw [if_pos hm] at h
                  by_cases hy : y0 = a0_0 ∧ y1 = a0_1 ∧ y2 = a0_2 ∧ y3 = a0_3 ∧ y4 = a0_4 ∧ y5 = a0_5 ∧ y6 = a0_6 ∧ y7 = a0_7 ∧ y8 = a0_8 ∧ y9 = a0_9 ∧ y10 = a0_10 ∧ y11 = a0_11 ∧ y12 = a0_12 ∧ y13 = a0_13 ∧ y14 = a0_14 ∧ ye = 0
                  · rw [if_pos hy] at h
                    obtain rfl := Option.some.inj h
                    obtain ⟨t0, t1, t2, t3, t4, t5, t6, t7, t8, t9, t10, t11, t12, t13, t14, re⟩ := hy
                    rw [t0, t1, t2, t3, t4, t5, t6, t7, t8, t9, t10, t11, t12, t13, t14, re] at hd2
                    exact msg_cut_m0 k a0_0 a0_1 a0_2 a0_3 a0_4 a0_5 a0_6 a0_7 a0_8 a0_9 a0_10 a0_11 a0_12 a0_13 a0_14 a1 A2 c2 l2 w hr2 hc2 hup s1 s2 s3 c hen hq.1 hq.2.1 _ _ rfl rfl hq.2.2.1 hq.2.2.2 hd1 hm hd2
                  · rw [if_neg hy] at h; cases h
                · rw [if_neg hm] at h
                  by_cases hy : y0 = 0 ∧ y1 = 0 ∧ y2 = 0 ∧ y3 = 0 ∧ y4 = 0 ∧ y5 = 0 ∧ y6 = 0 ∧ y7 = 0 ∧ y8 = 0 ∧ y9 = 0 ∧ y10 = 0 ∧ y11 = 0 ∧ y12 = 0 ∧ y13 = 0 ∧ y14 = (⟨#[]⟩ : ByteArray) ∧ ye = 3
                  · rw [if_pos hy] at h
                    obtain rfl := Option.some.inj h
                    obtain ⟨t0, t1, t2, t3, t4, t5, t6, t7, t8, t9, t10, t11, t12, t13, t14, re⟩ := hy
                    rw [t0, t1, t2, t3, t4, t5, t6, t7, t8, t9, t10, t11, t12, t13, t14, re] at hd2
                    exact msg_cut_m1 k a0_0 a0_1 a0_2 a0_3 a0_4 a0_5 a0_6 a0_7 a0_8 a0_9 a0_10 a0_11 a0_12 a0_13 a0_14 a1 A2 c2 l2 w hr2 hc2 hup s1 s2 s3 c hen hq.1 hq.2.1 _ _ rfl rfl hq.2.2.1 hq.2.2.2 hd1 hm hd2
                  · rw [if_neg hy] at h; cases h
              · rw [if_neg hn] at h; cases h
            · rw [if_neg hq] at h; cases h
          · rw [if_neg he] at h
            by_cases hc : c = []
            · rw [if_pos hc] at h
              obtain rfl := Option.some.inj h
              subst hc
              exact msg_cut_err k a0_0 a0_1 a0_2 a0_3 a0_4 a0_5 a0_6 a0_7 a0_8 a0_9 a0_10 a0_11 a0_12 a0_13 a0_14 a1 A2 c2 l2 w hr2 hc2 hup s1 s2 s3 e1 he hen
            · rw [if_neg hc] at h; cases h
/-- What is to be shown of fairleadlaw17_MsgCut, without Go and memory. -/
def fairleadlaw17_MsgCut.Pure : Prop := ∀ (a0_0 : Int) (a0_1 : Int) (a0_2 : Int) (a0_3 : Int) (a0_4 : Int) (a0_5 : Int) (a0_6 : Int) (a0_7 : Int) (a0_8 : Int) (a0_9 : Int) (a0_10 : Int) (a0_11 : Int) (a0_12 : Int) (a0_13 : Int) (a0_14 : ByteArray) (a1 : Int) (l2 : List Int), (((-9223372036854775808) ≤ a0_0 ∧ a0_0 ≤ 9223372036854775807) ∧ (0 ≤ a0_1 ∧ a0_1 ≤ 18446744073709551615) ∧ (0 ≤ a0_2 ∧ a0_2 ≤ 18446744073709551615) ∧ ((-9223372036854775808) ≤ a0_3 ∧ a0_3 ≤ 9223372036854775807) ∧ ((-9223372036854775808) ≤ a0_4 ∧ a0_4 ≤ 9223372036854775807) ∧ ((0 ≤ a0_5 ∧ a0_5 ≤ 4294967295) ∧ (0 ≤ a0_6 ∧ a0_6 ≤ 4294967295) ∧ (0 ≤ a0_7 ∧ a0_7 ≤ 18446744073709551615) ∧ ((0 ≤ a0_8 ∧ a0_8 ≤ 18446744073709551615) ∧ (0 ≤ a0_9 ∧ a0_9 ≤ 18446744073709551615) ∧ (0 ≤ a0_10 ∧ a0_10 ≤ 18446744073709551615) ∧ (0 ≤ a0_11 ∧ a0_11 ≤ 18446744073709551615) ∧ (0 ≤ a0_12 ∧ a0_12 ≤ 18446744073709551615) ∧ (0 ≤ a0_13 ∧ a0_13 ≤ 18446744073709551615))) ∧ (a0_14.size ≤ 9223372036854775807)) → ((-9223372036854775808) ≤ a1 ∧ a1 ≤ 9223372036854775807) → (l2.length ≤ 9223372036854775807 ∧ ∀ x ∈ l2, 0 ≤ x ∧ x ≤ 255) → ∃ k, fairleadlaw17_MsgCut.f k a0_0 a0_1 a0_2 a0_3 a0_4 a0_5 a0_6 a0_7 a0_8 a0_9 a0_10 a0_11 a0_12 a0_13 a0_14 a1 l2 = some true

end Go.Proofs.Ytadglbmghldnfaa.M
