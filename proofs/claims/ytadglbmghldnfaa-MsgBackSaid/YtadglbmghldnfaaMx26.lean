-- Laid by a program (wip/tools/myprint.py) out of the loaded program's own print: for each Go function a Lean function and the proof of its contract.
import Derived.Test.YtadglbmghldnfaaMx0
import Derived.Test.YtadglbmghldnfaaMx2
import Derived.Test.YtadglbmghldnfaaMx6
import Derived.Test.YtadglbmghldnfaaMx14
import Derived.Test.YtadglbmghldnfaaMx15
namespace Go.Proofs.Ytadglbmghldnfaa.M
open Go.RowKit Go.Proofs.YtadglbmghldnfaaW.PrintWords Go.Proofs.YtadglbmghldnfaaW.PrintLast Go.Proofs.YtadglbmghldnfaaW.PrintMore
attribute [local go_sem] max2_int min2_int max_two min_two max_three min_three max_four min_four   -- for this text's walks alone
set_option linter.unusedVariables false
set_option linter.unusedSimpArgs false

/-! ### fairleadlaw17_MsgBack: function 5 -/
-- HAND rounds=True making=True
attribute [local go_sem high] eqA28
theorem msg_put1b {B g : Nat} {w0 w : World} (h : Below B w0 w) (hg : B ≤ g) (i : Nat) (v : Value) : Below B w0 (w.setCell ⟨g, i, none⟩ v) := Below.setCell h hg v
theorem msg_put15b {w : World} {g B : Nat} {w0 : World} (v0 v1 v2 v3 v4 v5 v6 v7 v8 v9 v10 v11 v12 v13 v14 : Value) (h : Below B w0 w) (hg : B ≤ g) : Below B w0 (((((((((((((((w.setCell ⟨g, 0, none⟩ v0).setCell ⟨g, 1, none⟩ v1).setCell ⟨g, 2, none⟩ v2).setCell ⟨g, 3, none⟩ v3).setCell ⟨g, 4, none⟩ v4).setCell ⟨g, 5, none⟩ v5).setCell ⟨g, 6, none⟩ v6).setCell ⟨g, 7, none⟩ v7).setCell ⟨g, 8, none⟩ v8).setCell ⟨g, 9, none⟩ v9).setCell ⟨g, 10, none⟩ v10).setCell ⟨g, 11, none⟩ v11).setCell ⟨g, 12, none⟩ v12).setCell ⟨g, 13, none⟩ v13).setCell ⟨g, 14, none⟩ v14) := msg_put1b (msg_put1b (msg_put1b (msg_put1b (msg_put1b (msg_put1b (msg_put1b (msg_put1b (msg_put1b (msg_put1b (msg_put1b (msg_put1b (msg_put1b (msg_put1b (msg_put1b h hg 0 _) hg 1 _) hg 2 _) hg 3 _) hg 4 _) hg 5 _) hg 6 _) hg 7 _) hg 8 _) hg 9 _) hg 10 _) hg 11 _) hg 12 _) hg 13 _) hg 14 _
set_option maxHeartbeats 8000000 in
set_option maxRecDepth 100000 in
theorem msg_back_big (k : Nat) (a0_0 : Int) (a0_1 : Int) (a0_2 : Int) (a0_3 : Int) (a0_4 : Int) (a0_5 : Int) (a0_6 : Int) (a0_7 : Int) (a0_8 : Int) (a0_9 : Int) (a0_10 : Int) (a0_11 : Int) (a0_12 : Int) (a0_13 : Int) (a0_14 : ByteArray) (A1 : Option Addr) (c1 : Nat) (l1 : List Int) (w : World) (hr1 : Kd.C (Kd.int .u8) w A1 l1.length l1) (hc1 : l1.length ≤ c1) (hup : fairleadlaw17_awake.f k = some true) (h1 : (a0_14.size : Int) > 2000) :
    Calls Try.prog 5 #[.agg #[.int .i64 a0_0, .int .u64 a0_1, .int .u64 a0_2, .int .i64 a0_3, .int .i64 a0_4, .int .u32 a0_5, .int .u32 a0_6, .int .u64 a0_7, .int .u64 a0_8, .int .u64 a0_9, .int .u64 a0_10, .int .u64 a0_11, .int .u64 a0_12, .int .u64 a0_13, .string a0_14], .slice A1 l1.length c1] w fun e w' => e = .returned (.bool true) ∧ Below w.heap.size w w' := by
  have b1 : decide (2000 < (a0_14.size : Int)) = true := decide_eq_true h1
  have b2 : decide (2000 < a0_14.size) = true := decide_eq_true (by omega)
  have HUP := Aside0.mk hup
  clear hup h1
  go_enter Try.func5, Try.ntmps5
  go_wp2_with (first | ((with_reducible refine gate_dst (N := 2) rfl ?_); refine box_event ?hg (N := 2) ?hd (cs := #[.int .i64 a0_0, .int .u64 a0_1, .int .u64 a0_2, .int .i64 a0_3, .int .i64 a0_4, .int .u32 a0_5, .int .u32 a0_6, .int .u64 a0_7, .int .u64 a0_8, .int .u64 a0_9, .int .u64 a0_10, .int .u64 a0_11, .int .u64 a0_12, .int .u64 a0_13, .string a0_14]) (t := 28) ?hr ?_; (case hd => rfl); (case hg => rfl); (case hr => first | (go_simp; done) | (go_simp; rfl)); intro mb GM wm hbm hbb; obtain ⟨p0, p1, p2, p3, p4, p5, p6, p7, p8, p9, p10, p11, p12, p13, p14⟩ := msg_cells hbm; have HM := Aside0.mk hbm; have HB := Aside0.mk hbb; have HMB := Aside0.mk GM; clear hbm hbb GM) | (go_at_call 8; (refine (fairleadlaw17_awake.calls k true _ HUP.out).mono ?_); rintro e w1 ⟨rfl, hB1⟩; clear p0 p1 p2 p3 p4 p5 p6 p7 p8 p9 p10 p11 p12 p13 p14; have HM1 := Aside0.mk (blk_below HM.out hB1); obtain ⟨p0, p1, p2, p3, p4, p5, p6, p7, p8, p9, p10, p11, p12, p13, p14⟩ := msg_cells HM1.out; have HB1 := Aside0.mk (HB.out.trans (hB1.mono HB.out.size)); clear hB1 HM HB))
  (repeat (go_step3; (try go_wp2)))
  go_ret
  exact ⟨rfl, HB1.out⟩
set_option maxHeartbeats 8000000 in
set_option maxRecDepth 100000 in
theorem msg_back_long (k : Nat) (a0_0 : Int) (a0_1 : Int) (a0_2 : Int) (a0_3 : Int) (a0_4 : Int) (a0_5 : Int) (a0_6 : Int) (a0_7 : Int) (a0_8 : Int) (a0_9 : Int) (a0_10 : Int) (a0_11 : Int) (a0_12 : Int) (a0_13 : Int) (a0_14 : ByteArray) (A1 : Option Addr) (c1 : Nat) (l1 : List Int) (w : World) (hr1 : Kd.C (Kd.int .u8) w A1 l1.length l1) (hc1 : l1.length ≤ c1) (hup : fairleadlaw17_awake.f k = some true) (h1 : ¬ (a0_14.size : Int) > 2000) (h2 : (l1.length : Int) > 2000) :
    Calls Try.prog 5 #[.agg #[.int .i64 a0_0, .int .u64 a0_1, .int .u64 a0_2, .int .i64 a0_3, .int .i64 a0_4, .int .u32 a0_5, .int .u32 a0_6, .int .u64 a0_7, .int .u64 a0_8, .int .u64 a0_9, .int .u64 a0_10, .int .u64 a0_11, .int .u64 a0_12, .int .u64 a0_13, .string a0_14], .slice A1 l1.length c1] w fun e w' => e = .returned (.bool true) ∧ Below w.heap.size w w' := by
  have b1 : decide (2000 < (a0_14.size : Int)) = false := decide_eq_false (by omega)
  have b2 : decide (2000 < a0_14.size) = false := decide_eq_false (by omega)
  have b3 : decide (2000 < (l1.length : Int)) = true := decide_eq_true h2
  have b4 : decide (2000 < l1.length) = true := decide_eq_true (by omega)
  have HUP := Aside0.mk hup
  clear hup h1 h2
  go_enter Try.func5, Try.ntmps5
  go_wp2_with (first | ((with_reducible refine gate_dst (N := 2) rfl ?_); refine box_event ?hg (N := 2) ?hd (cs := #[.int .i64 a0_0, .int .u64 a0_1, .int .u64 a0_2, .int .i64 a0_3, .int .i64 a0_4, .int .u32 a0_5, .int .u32 a0_6, .int .u64 a0_7, .int .u64 a0_8, .int .u64 a0_9, .int .u64 a0_10, .int .u64 a0_11, .int .u64 a0_12, .int .u64 a0_13, .string a0_14]) (t := 28) ?hr ?_; (case hd => rfl); (case hg => rfl); (case hr => first | (go_simp; done) | (go_simp; rfl)); intro mb GM wm hbm hbb; obtain ⟨p0, p1, p2, p3, p4, p5, p6, p7, p8, p9, p10, p11, p12, p13, p14⟩ := msg_cells hbm; have HM := Aside0.mk hbm; have HB := Aside0.mk hbb; have HMB := Aside0.mk GM; clear hbm hbb GM) | (go_at_call 8; (refine (fairleadlaw17_awake.calls k true _ HUP.out).mono ?_); rintro e w1 ⟨rfl, hB1⟩; clear p0 p1 p2 p3 p4 p5 p6 p7 p8 p9 p10 p11 p12 p13 p14; have HM1 := Aside0.mk (blk_below HM.out hB1); obtain ⟨p0, p1, p2, p3, p4, p5, p6, p7, p8, p9, p10, p11, p12, p13, p14⟩ := msg_cells HM1.out; have HB1 := Aside0.mk (HB.out.trans (hB1.mono HB.out.size)); clear hB1 HM HB))
  (repeat (go_step3; (try go_wp2)))
  go_ret
  exact ⟨rfl, HB1.out⟩
set_option maxHeartbeats 8000000 in
set_option maxRecDepth 100000 in
theorem msg_back_11 (k : Nat) (a0_0 : Int) (a0_1 : Int) (a0_2 : Int) (a0_3 : Int) (a0_4 : Int) (a0_5 : Int) (a0_6 : Int) (a0_7 : Int) (a0_8 : Int) (a0_9 : Int) (a0_10 : Int) (a0_11 : Int) (a0_12 : Int) (a0_13 : Int) (a0_14 : ByteArray) (A1 : Option Addr) (c1 : Nat) (l1 : List Int) (w : World) (hr1 : Kd.C (Kd.int .u8) w A1 l1.length l1) (hc1 : l1.length ≤ c1) (hup : fairleadlaw17_awake.f k = some true) (s1 : ¬ (a0_14.size : Int) > 2000) (s2 : ¬ (l1.length : Int) > 2000) (c : List Int) (e1 : Int) (hen : msg_Encode.f k a0_0 a0_1 a0_2 a0_3 a0_4 a0_5 a0_6 a0_7 a0_8 a0_9 a0_10 a0_11 a0_12 a0_13 a0_14 = some (c, e1)) (he : e1 = 0) (hcl : c.length ≤ 512) (hd1 : msg_Decode.f k c = some (a0_0, a0_1, a0_2, a0_3, a0_4, a0_5, a0_6, a0_7, a0_8, a0_9, a0_10, a0_11, a0_12, a0_13, a0_14, 0)) (y0 : Int) (y1 : Int) (y2 : Int) (y3 : Int) (y4 : Int) (y5 : Int) (y6 : Int) (y7 : Int) (y8 : Int) (y9 : Int) (y10 : Int) (y11 : Int) (y12 : Int) (y13 : Int) (y14 : ByteArray) (ee : Int) (hd2 : msg_Decode.f k l1 = some (y0, y1, y2, y3, y4, y5, y6, y7, y8, y9, y10, y11, y12, y13, y14, ee)) (hz : ee = 0) (hen2 : msg_Encode.f k y0 y1 y2 y3 y4 y5 y6 y7 y8 y9 y10 y11 y12 y13 y14 = some (l1, 0)) :
    Calls Try.prog 5 #[.agg #[.int .i64 a0_0, .int .u64 a0_1, .int .u64 a0_2, .int .i64 a0_3, .int .i64 a0_4, .int .u32 a0_5, .int .u32 a0_6, .int .u64 a0_7, .int .u64 a0_8, .int .u64 a0_9, .int .u64 a0_10, .int .u64 a0_11, .int .u64 a0_12, .int .u64 a0_13, .string a0_14], .slice A1 l1.length c1] w fun e w' => e = .returned (.bool true) ∧ Below w.heap.size w w' := by
  have b1 : decide (2000 < (a0_14.size : Int)) = false := decide_eq_false (by omega)
  have b2 : decide (2000 < a0_14.size) = false := decide_eq_false (by omega)
  have b3 : decide (2000 < (l1.length : Int)) = false := decide_eq_false (by omega)
  have b4 : decide (2000 < l1.length) = false := decide_eq_false (by omega)
  have HC1 := Aside0.mk hc1
  have HUP := Aside0.mk hup
  have HEN := Aside0.mk hen
  have HD2 := Aside0.mk hd2
  have HR1 := Aside0.mk hr1
  have HD1 := Aside0.mk hd1
  have b5 : decide (512 < (c.length : Int)) = false := decide_eq_false (by omega)
  have b6 : decide (512 < c.length) = false := decide_eq_false (by omega)
  subst he
  have HE2 := Aside0.mk hen2
  subst hz
  clear s1 s2 hup hen hd2 hr1 hcl hd1 hen2
  go_enter Try.func5, Try.ntmps5
  go_wp2_with (first | ((with_reducible refine gate_dst (N := 2) rfl ?_); refine box_event ?hg (N := 2) ?hd (cs := #[.int .i64 a0_0, .int .u64 a0_1, .int .u64 a0_2, .int .i64 a0_3, .int .i64 a0_4, .int .u32 a0_5, .int .u32 a0_6, .int .u64 a0_7, .int .u64 a0_8, .int .u64 a0_9, .int .u64 a0_10, .int .u64 a0_11, .int .u64 a0_12, .int .u64 a0_13, .string a0_14]) (t := 28) ?hr ?_; (case hd => rfl); (case hg => rfl); (case hr => first | (go_simp; done) | (go_simp; rfl)); intro mb GM wm hbm hbb; obtain ⟨p0, p1, p2, p3, p4, p5, p6, p7, p8, p9, p10, p11, p12, p13, p14⟩ := msg_cells hbm; have HM := Aside0.mk hbm; have HB := Aside0.mk hbb; have HMB := Aside0.mk GM; clear hbm hbb GM) | (go_at_call 8; (refine (fairleadlaw17_awake.calls k true _ HUP.out).mono ?_); rintro e w1 ⟨rfl, hB1⟩; clear p0 p1 p2 p3 p4 p5 p6 p7 p8 p9 p10 p11 p12 p13 p14; have HM1 := Aside0.mk (blk_below HM.out hB1); obtain ⟨p0, p1, p2, p3, p4, p5, p6, p7, p8, p9, p10, p11, p12, p13, p14⟩ := msg_cells HM1.out; have HB1 := Aside0.mk (HB.out.trans (hB1.mono HB.out.size)); clear hB1 HM HB) | (go_at_call 9; (with_reducible refine (msg_Encode.calls k a0_0 a0_1 a0_2 a0_3 a0_4 a0_5 a0_6 a0_7 a0_8 a0_9 a0_10 a0_11 a0_12 a0_13 a0_14 c 0 _ HEN.out).mono ?_); rintro e w2 ⟨v2, rfl, hR2, hB2⟩; obtain ⟨A2, cp2, ev2, hcp2, hC2⟩ := Kd.R_reads hR2; subst ev2; clear p0 p1 p2 p3 p4 p5 p6 p7 p8 p9 p10 p11 p12 p13 p14; have HM2 := Aside0.mk (blk_below HM1.out hB2); obtain ⟨p0, p1, p2, p3, p4, p5, p6, p7, p8, p9, p10, p11, p12, p13, p14⟩ := msg_cells HM2.out; have HB2 := Aside0.mk (HB1.out.trans (hB2.mono HB1.out.size)); have HC2 := Aside0.mk hC2; have HP2 := Aside0.mk hcp2; clear hB2 hR2 hC2 hcp2 HM1 HB1) | (go_at_call 13; (with_reducible refine (msg_Decode.calls k A2 cp2 c a0_0 a0_1 a0_2 a0_3 a0_4 a0_5 a0_6 a0_7 a0_8 a0_9 a0_10 a0_11 a0_12 a0_13 a0_14 0 _ HC2.out HP2.out HD1.out).mono ?_); rintro e w3 ⟨rfl, hB3⟩; clear p0 p1 p2 p3 p4 p5 p6 p7 p8 p9 p10 p11 p12 p13 p14; have HM3 := Aside0.mk (blk_below HM2.out hB3); obtain ⟨p0, p1, p2, p3, p4, p5, p6, p7, p8, p9, p10, p11, p12, p13, p14⟩ := msg_cells HM3.out; have HB3 := Aside0.mk (HB2.out.trans (hB3.mono HB2.out.size)); clear hB3 HM2 HB2) | ((with_reducible refine gate_dst (N := 8) rfl ?_); refine box_event ?hg (N := 8) ?hd (cs := #[.int .i64 0, .int .u64 0, .int .u64 0, .int .i64 0, .int .i64 0, .int .u32 0, .int .u32 0, .int .u64 0, .int .u64 0, .int .u64 0, .int .u64 0, .int .u64 0, .int .u64 0, .int .u64 0, .string ⟨#[]⟩]) (t := 28) ?hr ?_; (case hd => rfl); (case hg => rfl); (case hr => first | (go_simp; done) | (go_simp; rfl)); intro nba GN wna hbn hbb; have HGa := Aside0.mk GN; obtain ⟨na_0, na_1, na_2, na_3, na_4, na_5, na_6, na_7, na_8, na_9, na_10, na_11, na_12, na_13, na_14⟩ := msg_cells hbn; have hfna := blk_frozen hbn; have HMN := Aside0.mk (blk_below HM3.out hbb); clear p0 p1 p2 p3 p4 p5 p6 p7 p8 p9 p10 p11 p12 p13 p14; obtain ⟨p0, p1, p2, p3, p4, p5, p6, p7, p8, p9, p10, p11, p12, p13, p14⟩ := msg_cells HMN.out; have hnem : mb ≠ nba := (fun e_ => by have := blk_lt HM3.out; omega); have hnem2 := hnem.symm; have HBNa := Aside0.mk (HB3.out.trans (hbb.mono HB3.out.size)); clear hbn GN hbb) | (go_at_call 13; (with_reducible refine (msg_Decode.calls k A1 c1 l1 y0 y1 y2 y3 y4 y5 y6 y7 y8 y9 y10 y11 y12 y13 y14 0 _ (Kd.C_below HR1.out (msg_put15b (g := nba) (.int .i64 a0_0) (.int .u64 a0_1) (.int .u64 a0_2) (.int .i64 a0_3) (.int .i64 a0_4) (.int .u32 a0_5) (.int .u32 a0_6) (.int .u64 a0_7) (.int .u64 a0_8) (.int .u64 a0_9) (.int .u64 a0_10) (.int .u64 a0_11) (.int .u64 a0_12) (.int .u64 a0_13) (.string a0_14) HBNa.out (by have := HGa.out; have := HB3.out.size; omega))) HC1.out HD2.out).mono ?_); rintro e w5 ⟨rfl, hB5⟩; have hb_ := (msg_put15b (g := nba) (.int .i64 a0_0) (.int .u64 a0_1) (.int .u64 a0_2) (.int .i64 a0_3) (.int .i64 a0_4) (.int .u32 a0_5) (.int .u32 a0_6) (.int .u64 a0_7) (.int .u64 a0_8) (.int .u64 a0_9) (.int .u64 a0_10) (.int .u64 a0_11) (.int .u64 a0_12) (.int .u64 a0_13) (.string a0_14) HBNa.out (by have := HGa.out; have := HB3.out.size; omega)); have HB5 := Aside0.mk (hb_.trans (hB5.mono hb_.size)); clear hB5 hb_) | ((with_reducible refine gate_dst (N := 10) rfl ?_); refine box_event ?hg (N := 10) ?hd (cs := #[.int .i64 0, .int .u64 0, .int .u64 0, .int .i64 0, .int .i64 0, .int .u32 0, .int .u32 0, .int .u64 0, .int .u64 0, .int .u64 0, .int .u64 0, .int .u64 0, .int .u64 0, .int .u64 0, .string ⟨#[]⟩]) (t := 28) ?hr ?_; (case hd => rfl); (case hg => rfl); (case hr => first | (go_simp; done) | (go_simp; rfl)); intro nbb GN wnb hbn hbb; have HGb := Aside0.mk GN; obtain ⟨nb_0, nb_1, nb_2, nb_3, nb_4, nb_5, nb_6, nb_7, nb_8, nb_9, nb_10, nb_11, nb_12, nb_13, nb_14⟩ := msg_cells hbn; have hfnb := blk_frozen hbn; have HBNb := Aside0.mk (HB5.out.trans (hbb.mono HB5.out.size)); clear hbn GN hbb) | (go_at_call 9; (with_reducible refine (msg_Encode.calls k y0 y1 y2 y3 y4 y5 y6 y7 y8 y9 y10 y11 y12 y13 y14 l1 0 _ HE2.out).mono ?_); rintro e w8 ⟨v8, rfl, hR8, hB8⟩; have hb_ := (msg_put15b (g := nbb) (.int .i64 y0) (.int .u64 y1) (.int .u64 y2) (.int .i64 y3) (.int .i64 y4) (.int .u32 y5) (.int .u32 y6) (.int .u64 y7) (.int .u64 y8) (.int .u64 y9) (.int .u64 y10) (.int .u64 y11) (.int .u64 y12) (.int .u64 y13) (.string y14) HBNb.out (by have := HGb.out; have := HB5.out.size; omega)); have hb8_ := hb_.trans (hB8.mono hb_.size); have hcv1 := own_string (P := Try.prog) Try.underlying30 Try.underlying5 Try.underlying9 (Kd.own_of_R hR8); have hcv2 := Kd.C_string (P := Try.prog) (A := A1) (c := c1) Try.underlying30 Try.underlying5 Try.underlying9 (Kd.C_below HR1.out hb8_); have HB8 := Aside0.mk hb8_; clear hB8 hb_ hb8_ hR8))
  skip
  go_ret
  exact ⟨rfl, HB8.out⟩
set_option maxHeartbeats 8000000 in
set_option maxRecDepth 100000 in
theorem msg_back_10 (k : Nat) (a0_0 : Int) (a0_1 : Int) (a0_2 : Int) (a0_3 : Int) (a0_4 : Int) (a0_5 : Int) (a0_6 : Int) (a0_7 : Int) (a0_8 : Int) (a0_9 : Int) (a0_10 : Int) (a0_11 : Int) (a0_12 : Int) (a0_13 : Int) (a0_14 : ByteArray) (A1 : Option Addr) (c1 : Nat) (l1 : List Int) (w : World) (hr1 : Kd.C (Kd.int .u8) w A1 l1.length l1) (hc1 : l1.length ≤ c1) (hup : fairleadlaw17_awake.f k = some true) (s1 : ¬ (a0_14.size : Int) > 2000) (s2 : ¬ (l1.length : Int) > 2000) (c : List Int) (e1 : Int) (hen : msg_Encode.f k a0_0 a0_1 a0_2 a0_3 a0_4 a0_5 a0_6 a0_7 a0_8 a0_9 a0_10 a0_11 a0_12 a0_13 a0_14 = some (c, e1)) (he : e1 = 0) (hcl : c.length ≤ 512) (hd1 : msg_Decode.f k c = some (a0_0, a0_1, a0_2, a0_3, a0_4, a0_5, a0_6, a0_7, a0_8, a0_9, a0_10, a0_11, a0_12, a0_13, a0_14, 0)) (y0 : Int) (y1 : Int) (y2 : Int) (y3 : Int) (y4 : Int) (y5 : Int) (y6 : Int) (y7 : Int) (y8 : Int) (y9 : Int) (y10 : Int) (y11 : Int) (y12 : Int) (y13 : Int) (y14 : ByteArray) (ee : Int) (hd2 : msg_Decode.f k l1 = some (y0, y1, y2, y3, y4, y5, y6, y7, y8, y9, y10, y11, y12, y13, y14, ee)) (hz : ee ≠ 0) (q0 : y0 = 0) (q1 : y1 = 0) (q2 : y2 = 0) (q3 : y3 = 0) (q4 : y4 = 0) (q5 : y5 = 0) (q6 : y6 = 0) (q7 : y7 = 0) (q8 : y8 = 0) (q9 : y9 = 0) (q10 : y10 = 0) (q11 : y11 = 0) (q12 : y12 = 0) (q13 : y13 = 0) (q14 : y14 = ⟨#[]⟩) :
    Calls Try.prog 5 #[.agg #[.int .i64 a0_0, .int .u64 a0_1, .int .u64 a0_2, .int .i64 a0_3, .int .i64 a0_4, .int .u32 a0_5, .int .u32 a0_6, .int .u64 a0_7, .int .u64 a0_8, .int .u64 a0_9, .int .u64 a0_10, .int .u64 a0_11, .int .u64 a0_12, .int .u64 a0_13, .string a0_14], .slice A1 l1.length c1] w fun e w' => e = .returned (.bool true) ∧ Below w.heap.size w w' := by
  have b1 : decide (2000 < (a0_14.size : Int)) = false := decide_eq_false (by omega)
  have b2 : decide (2000 < a0_14.size) = false := decide_eq_false (by omega)
  have b3 : decide (2000 < (l1.length : Int)) = false := decide_eq_false (by omega)
  have b4 : decide (2000 < l1.length) = false := decide_eq_false (by omega)
  have HC1 := Aside0.mk hc1
  have HUP := Aside0.mk hup
  have HEN := Aside0.mk hen
  have HD2 := Aside0.mk hd2
  have HR1 := Aside0.mk hr1
  have HD1 := Aside0.mk hd1
  have b5 : decide (512 < (c.length : Int)) = false := decide_eq_false (by omega)
  have b6 : decide (512 < c.length) = false := decide_eq_false (by omega)
  subst he
  have b8 : (ee != 0) = true := bne_iff_ne.2 hz
  subst q0 q1 q2 q3 q4 q5 q6 q7 q8 q9 q10 q11 q12 q13 q14
  clear s1 s2 hup hen hd2 hr1 hcl hd1 hz
  go_enter Try.func5, Try.ntmps5
  go_wp2_with (first | ((with_reducible refine gate_dst (N := 2) rfl ?_); refine box_event ?hg (N := 2) ?hd (cs := #[.int .i64 a0_0, .int .u64 a0_1, .int .u64 a0_2, .int .i64 a0_3, .int .i64 a0_4, .int .u32 a0_5, .int .u32 a0_6, .int .u64 a0_7, .int .u64 a0_8, .int .u64 a0_9, .int .u64 a0_10, .int .u64 a0_11, .int .u64 a0_12, .int .u64 a0_13, .string a0_14]) (t := 28) ?hr ?_; (case hd => rfl); (case hg => rfl); (case hr => first | (go_simp; done) | (go_simp; rfl)); intro mb GM wm hbm hbb; obtain ⟨p0, p1, p2, p3, p4, p5, p6, p7, p8, p9, p10, p11, p12, p13, p14⟩ := msg_cells hbm; have HM := Aside0.mk hbm; have HB := Aside0.mk hbb; have HMB := Aside0.mk GM; clear hbm hbb GM) | (go_at_call 8; (refine (fairleadlaw17_awake.calls k true _ HUP.out).mono ?_); rintro e w1 ⟨rfl, hB1⟩; clear p0 p1 p2 p3 p4 p5 p6 p7 p8 p9 p10 p11 p12 p13 p14; have HM1 := Aside0.mk (blk_below HM.out hB1); obtain ⟨p0, p1, p2, p3, p4, p5, p6, p7, p8, p9, p10, p11, p12, p13, p14⟩ := msg_cells HM1.out; have HB1 := Aside0.mk (HB.out.trans (hB1.mono HB.out.size)); clear hB1 HM HB) | (go_at_call 9; (with_reducible refine (msg_Encode.calls k a0_0 a0_1 a0_2 a0_3 a0_4 a0_5 a0_6 a0_7 a0_8 a0_9 a0_10 a0_11 a0_12 a0_13 a0_14 c 0 _ HEN.out).mono ?_); rintro e w2 ⟨v2, rfl, hR2, hB2⟩; obtain ⟨A2, cp2, ev2, hcp2, hC2⟩ := Kd.R_reads hR2; subst ev2; clear p0 p1 p2 p3 p4 p5 p6 p7 p8 p9 p10 p11 p12 p13 p14; have HM2 := Aside0.mk (blk_below HM1.out hB2); obtain ⟨p0, p1, p2, p3, p4, p5, p6, p7, p8, p9, p10, p11, p12, p13, p14⟩ := msg_cells HM2.out; have HB2 := Aside0.mk (HB1.out.trans (hB2.mono HB1.out.size)); have HC2 := Aside0.mk hC2; have HP2 := Aside0.mk hcp2; clear hB2 hR2 hC2 hcp2 HM1 HB1) | (go_at_call 13; (with_reducible refine (msg_Decode.calls k A2 cp2 c a0_0 a0_1 a0_2 a0_3 a0_4 a0_5 a0_6 a0_7 a0_8 a0_9 a0_10 a0_11 a0_12 a0_13 a0_14 0 _ HC2.out HP2.out HD1.out).mono ?_); rintro e w3 ⟨rfl, hB3⟩; clear p0 p1 p2 p3 p4 p5 p6 p7 p8 p9 p10 p11 p12 p13 p14; have HM3 := Aside0.mk (blk_below HM2.out hB3); obtain ⟨p0, p1, p2, p3, p4, p5, p6, p7, p8, p9, p10, p11, p12, p13, p14⟩ := msg_cells HM3.out; have HB3 := Aside0.mk (HB2.out.trans (hB3.mono HB2.out.size)); clear hB3 HM2 HB2) | ((with_reducible refine gate_dst (N := 8) rfl ?_); refine box_event ?hg (N := 8) ?hd (cs := #[.int .i64 0, .int .u64 0, .int .u64 0, .int .i64 0, .int .i64 0, .int .u32 0, .int .u32 0, .int .u64 0, .int .u64 0, .int .u64 0, .int .u64 0, .int .u64 0, .int .u64 0, .int .u64 0, .string ⟨#[]⟩]) (t := 28) ?hr ?_; (case hd => rfl); (case hg => rfl); (case hr => first | (go_simp; done) | (go_simp; rfl)); intro nba GN wna hbn hbb; have HGa := Aside0.mk GN; obtain ⟨na_0, na_1, na_2, na_3, na_4, na_5, na_6, na_7, na_8, na_9, na_10, na_11, na_12, na_13, na_14⟩ := msg_cells hbn; have hfna := blk_frozen hbn; have HMN := Aside0.mk (blk_below HM3.out hbb); clear p0 p1 p2 p3 p4 p5 p6 p7 p8 p9 p10 p11 p12 p13 p14; obtain ⟨p0, p1, p2, p3, p4, p5, p6, p7, p8, p9, p10, p11, p12, p13, p14⟩ := msg_cells HMN.out; have hnem : mb ≠ nba := (fun e_ => by have := blk_lt HM3.out; omega); have hnem2 := hnem.symm; have HBNa := Aside0.mk (HB3.out.trans (hbb.mono HB3.out.size)); clear hbn GN hbb) | (go_at_call 13; (with_reducible refine (msg_Decode.calls k A1 c1 l1 (0) (0) (0) (0) (0) (0) (0) (0) (0) (0) (0) (0) (0) (0) (⟨#[]⟩) ee _ (Kd.C_below HR1.out (msg_put15b (g := nba) (.int .i64 a0_0) (.int .u64 a0_1) (.int .u64 a0_2) (.int .i64 a0_3) (.int .i64 a0_4) (.int .u32 a0_5) (.int .u32 a0_6) (.int .u64 a0_7) (.int .u64 a0_8) (.int .u64 a0_9) (.int .u64 a0_10) (.int .u64 a0_11) (.int .u64 a0_12) (.int .u64 a0_13) (.string a0_14) HBNa.out (by have := HGa.out; have := HB3.out.size; omega))) HC1.out HD2.out).mono ?_); rintro e w5 ⟨rfl, hB5⟩; have hb_ := (msg_put15b (g := nba) (.int .i64 a0_0) (.int .u64 a0_1) (.int .u64 a0_2) (.int .i64 a0_3) (.int .i64 a0_4) (.int .u32 a0_5) (.int .u32 a0_6) (.int .u64 a0_7) (.int .u64 a0_8) (.int .u64 a0_9) (.int .u64 a0_10) (.int .u64 a0_11) (.int .u64 a0_12) (.int .u64 a0_13) (.string a0_14) HBNa.out (by have := HGa.out; have := HB3.out.size; omega)); have HB5 := Aside0.mk (hb_.trans (hB5.mono hb_.size)); clear hB5 hb_) | ((with_reducible refine gate_dst (N := 10) rfl ?_); refine box_event ?hg (N := 10) ?hd (cs := #[.int .i64 0, .int .u64 0, .int .u64 0, .int .i64 0, .int .i64 0, .int .u32 0, .int .u32 0, .int .u64 0, .int .u64 0, .int .u64 0, .int .u64 0, .int .u64 0, .int .u64 0, .int .u64 0, .string ⟨#[]⟩]) (t := 28) ?hr ?_; (case hd => rfl); (case hg => rfl); (case hr => first | (go_simp; done) | (go_simp; rfl)); intro nbb GN wnb hbn hbb; have HGb := Aside0.mk GN; obtain ⟨nb_0, nb_1, nb_2, nb_3, nb_4, nb_5, nb_6, nb_7, nb_8, nb_9, nb_10, nb_11, nb_12, nb_13, nb_14⟩ := msg_cells hbn; have hfnb := blk_frozen hbn; have HBNb := Aside0.mk (HB5.out.trans (hbb.mono HB5.out.size)); clear hbn GN hbb))
  skip
  go_ret
  exact ⟨rfl, msg_put15b (g := nbb) _ _ _ _ _ _ _ _ _ _ _ _ _ _ _ HBNb.out (by have := HGb.out; have := HB5.out.size; omega)⟩
set_option maxHeartbeats 8000000 in
set_option maxRecDepth 100000 in
theorem msg_back_01 (k : Nat) (a0_0 : Int) (a0_1 : Int) (a0_2 : Int) (a0_3 : Int) (a0_4 : Int) (a0_5 : Int) (a0_6 : Int) (a0_7 : Int) (a0_8 : Int) (a0_9 : Int) (a0_10 : Int) (a0_11 : Int) (a0_12 : Int) (a0_13 : Int) (a0_14 : ByteArray) (A1 : Option Addr) (c1 : Nat) (l1 : List Int) (w : World) (hr1 : Kd.C (Kd.int .u8) w A1 l1.length l1) (hc1 : l1.length ≤ c1) (hup : fairleadlaw17_awake.f k = some true) (s1 : ¬ (a0_14.size : Int) > 2000) (s2 : ¬ (l1.length : Int) > 2000) (c : List Int) (e1 : Int) (hen : msg_Encode.f k a0_0 a0_1 a0_2 a0_3 a0_4 a0_5 a0_6 a0_7 a0_8 a0_9 a0_10 a0_11 a0_12 a0_13 a0_14 = some (c, e1)) (he : e1 ≠ 0) (y0 : Int) (y1 : Int) (y2 : Int) (y3 : Int) (y4 : Int) (y5 : Int) (y6 : Int) (y7 : Int) (y8 : Int) (y9 : Int) (y10 : Int) (y11 : Int) (y12 : Int) (y13 : Int) (y14 : ByteArray) (ee : Int) (hd2 : msg_Decode.f k l1 = some (y0, y1, y2, y3, y4, y5, y6, y7, y8, y9, y10, y11, y12, y13, y14, ee)) (hz : ee = 0) (hen2 : msg_Encode.f k y0 y1 y2 y3 y4 y5 y6 y7 y8 y9 y10 y11 y12 y13 y14 = some (l1, 0)) :
    Calls Try.prog 5 #[.agg #[.int .i64 a0_0, .int .u64 a0_1, .int .u64 a0_2, .int .i64 a0_3, .int .i64 a0_4, .int .u32 a0_5, .int .u32 a0_6, .int .u64 a0_7, .int .u64 a0_8, .int .u64 a0_9, .int .u64 a0_10, .int .u64 a0_11, .int .u64 a0_12, .int .u64 a0_13, .string a0_14], .slice A1 l1.length c1] w fun e w' => e = .returned (.bool true) ∧ Below w.heap.size w w' := by
  have b1 : decide (2000 < (a0_14.size : Int)) = false := decide_eq_false (by omega)
  have b2 : decide (2000 < a0_14.size) = false := decide_eq_false (by omega)
  have b3 : decide (2000 < (l1.length : Int)) = false := decide_eq_false (by omega)
  have b4 : decide (2000 < l1.length) = false := decide_eq_false (by omega)
  have HC1 := Aside0.mk hc1
  have HUP := Aside0.mk hup
  have HEN := Aside0.mk hen
  have HD2 := Aside0.mk hd2
  have HR1 := Aside0.mk hr1
  have b7 : (e1 == 0) = false := beq_eq_false_iff_ne.2 he
  have HE2 := Aside0.mk hen2
  subst hz
  clear s1 s2 hup hen hd2 hr1 he hen2
  go_enter Try.func5, Try.ntmps5
  go_wp2_with (first | ((with_reducible refine gate_dst (N := 2) rfl ?_); refine box_event ?hg (N := 2) ?hd (cs := #[.int .i64 a0_0, .int .u64 a0_1, .int .u64 a0_2, .int .i64 a0_3, .int .i64 a0_4, .int .u32 a0_5, .int .u32 a0_6, .int .u64 a0_7, .int .u64 a0_8, .int .u64 a0_9, .int .u64 a0_10, .int .u64 a0_11, .int .u64 a0_12, .int .u64 a0_13, .string a0_14]) (t := 28) ?hr ?_; (case hd => rfl); (case hg => rfl); (case hr => first | (go_simp; done) | (go_simp; rfl)); intro mb GM wm hbm hbb; obtain ⟨p0, p1, p2, p3, p4, p5, p6, p7, p8, p9, p10, p11, p12, p13, p14⟩ := msg_cells hbm; have HM := Aside0.mk hbm; have HB := Aside0.mk hbb; have HMB := Aside0.mk GM; clear hbm hbb GM) | (go_at_call 8; (refine (fairleadlaw17_awake.calls k true _ HUP.out).mono ?_); rintro e w1 ⟨rfl, hB1⟩; clear p0 p1 p2 p3 p4 p5 p6 p7 p8 p9 p10 p11 p12 p13 p14; have HM1 := Aside0.mk (blk_below HM.out hB1); obtain ⟨p0, p1, p2, p3, p4, p5, p6, p7, p8, p9, p10, p11, p12, p13, p14⟩ := msg_cells HM1.out; have HB1 := Aside0.mk (HB.out.trans (hB1.mono HB.out.size)); clear hB1 HM HB) | (go_at_call 9; (with_reducible refine (msg_Encode.calls k a0_0 a0_1 a0_2 a0_3 a0_4 a0_5 a0_6 a0_7 a0_8 a0_9 a0_10 a0_11 a0_12 a0_13 a0_14 c e1 _ HEN.out).mono ?_); rintro e w2 ⟨v2, rfl, hR2, hB2⟩; obtain ⟨A2, cp2, ev2, hcp2, hC2⟩ := Kd.R_reads hR2; subst ev2; clear p0 p1 p2 p3 p4 p5 p6 p7 p8 p9 p10 p11 p12 p13 p14; have HM2 := Aside0.mk (blk_below HM1.out hB2); obtain ⟨p0, p1, p2, p3, p4, p5, p6, p7, p8, p9, p10, p11, p12, p13, p14⟩ := msg_cells HM2.out; have HB2 := Aside0.mk (HB1.out.trans (hB2.mono HB1.out.size)); have HC2 := Aside0.mk hC2; have HP2 := Aside0.mk hcp2; clear hB2 hR2 hC2 hcp2 HM1 HB1) | (go_at_call 13; (with_reducible refine (msg_Decode.calls k A1 c1 l1 y0 y1 y2 y3 y4 y5 y6 y7 y8 y9 y10 y11 y12 y13 y14 0 _ (Kd.C_below HR1.out HB2.out) HC1.out HD2.out).mono ?_); rintro e w5 ⟨rfl, hB5⟩; have HB5 := Aside0.mk ((HB2.out).trans (hB5.mono (HB2.out).size)); clear hB5) | ((with_reducible refine gate_dst (N := 10) rfl ?_); refine box_event ?hg (N := 10) ?hd (cs := #[.int .i64 0, .int .u64 0, .int .u64 0, .int .i64 0, .int .i64 0, .int .u32 0, .int .u32 0, .int .u64 0, .int .u64 0, .int .u64 0, .int .u64 0, .int .u64 0, .int .u64 0, .int .u64 0, .string ⟨#[]⟩]) (t := 28) ?hr ?_; (case hd => rfl); (case hg => rfl); (case hr => first | (go_simp; done) | (go_simp; rfl)); intro nbb GN wnb hbn hbb; have HGb := Aside0.mk GN; obtain ⟨nb_0, nb_1, nb_2, nb_3, nb_4, nb_5, nb_6, nb_7, nb_8, nb_9, nb_10, nb_11, nb_12, nb_13, nb_14⟩ := msg_cells hbn; have hfnb := blk_frozen hbn; have HBNb := Aside0.mk (HB5.out.trans (hbb.mono HB5.out.size)); clear hbn GN hbb) | (go_at_call 9; (with_reducible refine (msg_Encode.calls k y0 y1 y2 y3 y4 y5 y6 y7 y8 y9 y10 y11 y12 y13 y14 l1 0 _ HE2.out).mono ?_); rintro e w8 ⟨v8, rfl, hR8, hB8⟩; have hb_ := (msg_put15b (g := nbb) (.int .i64 y0) (.int .u64 y1) (.int .u64 y2) (.int .i64 y3) (.int .i64 y4) (.int .u32 y5) (.int .u32 y6) (.int .u64 y7) (.int .u64 y8) (.int .u64 y9) (.int .u64 y10) (.int .u64 y11) (.int .u64 y12) (.int .u64 y13) (.string y14) HBNb.out (by have := HGb.out; have := HB5.out.size; omega)); have hb8_ := hb_.trans (hB8.mono hb_.size); have hcv1 := own_string (P := Try.prog) Try.underlying30 Try.underlying5 Try.underlying9 (Kd.own_of_R hR8); have hcv2 := Kd.C_string (P := Try.prog) (A := A1) (c := c1) Try.underlying30 Try.underlying5 Try.underlying9 (Kd.C_below HR1.out hb8_); have HB8 := Aside0.mk hb8_; clear hB8 hb_ hb8_ hR8))
  skip
  go_ret
  exact ⟨rfl, HB8.out⟩
set_option maxHeartbeats 8000000 in
set_option maxRecDepth 100000 in
theorem msg_back_00 (k : Nat) (a0_0 : Int) (a0_1 : Int) (a0_2 : Int) (a0_3 : Int) (a0_4 : Int) (a0_5 : Int) (a0_6 : Int) (a0_7 : Int) (a0_8 : Int) (a0_9 : Int) (a0_10 : Int) (a0_11 : Int) (a0_12 : Int) (a0_13 : Int) (a0_14 : ByteArray) (A1 : Option Addr) (c1 : Nat) (l1 : List Int) (w : World) (hr1 : Kd.C (Kd.int .u8) w A1 l1.length l1) (hc1 : l1.length ≤ c1) (hup : fairleadlaw17_awake.f k = some true) (s1 : ¬ (a0_14.size : Int) > 2000) (s2 : ¬ (l1.length : Int) > 2000) (c : List Int) (e1 : Int) (hen : msg_Encode.f k a0_0 a0_1 a0_2 a0_3 a0_4 a0_5 a0_6 a0_7 a0_8 a0_9 a0_10 a0_11 a0_12 a0_13 a0_14 = some (c, e1)) (he : e1 ≠ 0) (y0 : Int) (y1 : Int) (y2 : Int) (y3 : Int) (y4 : Int) (y5 : Int) (y6 : Int) (y7 : Int) (y8 : Int) (y9 : Int) (y10 : Int) (y11 : Int) (y12 : Int) (y13 : Int) (y14 : ByteArray) (ee : Int) (hd2 : msg_Decode.f k l1 = some (y0, y1, y2, y3, y4, y5, y6, y7, y8, y9, y10, y11, y12, y13, y14, ee)) (hz : ee ≠ 0) (q0 : y0 = 0) (q1 : y1 = 0) (q2 : y2 = 0) (q3 : y3 = 0) (q4 : y4 = 0) (q5 : y5 = 0) (q6 : y6 = 0) (q7 : y7 = 0) (q8 : y8 = 0) (q9 : y9 = 0) (q10 : y10 = 0) (q11 : y11 = 0) (q12 : y12 = 0) (q13 : y13 = 0) (q14 : y14 = ⟨#[]⟩) :
    Calls Try.prog 5 #[.agg #[.int .i64 a0_0, .int .u64 a0_1, .int .u64 a0_2, .int .i64 a0_3, .int .i64 a0_4, .int .u32 a0_5, .int .u32 a0_6, .int .u64 a0_7, .int .u64 a0_8, .int .u64 a0_9, .int .u64 a0_10, .int .u64 a0_11, .int .u64 a0_12, .int .u64 a0_13, .string a0_14], .slice A1 l1.length c1] w fun e w' => e = .returned (.bool true) ∧ Below w.heap.size w w' := by
  have b1 : decide (2000 < (a0_14.size : Int)) = false := decide_eq_false (by omega)
  have b2 : decide (2000 < a0_14.size) = false := decide_eq_false (by omega)
  have b3 : decide (2000 < (l1.length : Int)) = false := decide_eq_false (by omega)
  have b4 : decide (2000 < l1.length) = false := decide_eq_false (by omega)
  have HC1 := Aside0.mk hc1
  have HUP := Aside0.mk hup
  have HEN := Aside0.mk hen
  have HD2 := Aside0.mk hd2
  have HR1 := Aside0.mk hr1
  have b7 : (e1 == 0) = false := beq_eq_false_iff_ne.2 he
  have b8 : (ee != 0) = true := bne_iff_ne.2 hz
  subst q0 q1 q2 q3 q4 q5 q6 q7 q8 q9 q10 q11 q12 q13 q14
  clear s1 s2 hup hen hd2 hr1 he hz
  go_enter Try.func5, Try.ntmps5
  go_wp2_with (first | ((with_reducible refine gate_dst (N := 2) rfl ?_); refine box_event ?hg (N := 2) ?hd (cs := #[.int .i64 a0_0, .int .u64 a0_1, .int .u64 a0_2, .int .i64 a0_3, .int .i64 a0_4, .int .u32 a0_5, .int .u32 a0_6, .int .u64 a0_7, .int .u64 a0_8, .int .u64 a0_9, .int .u64 a0_10, .int .u64 a0_11, .int .u64 a0_12, .int .u64 a0_13, .string a0_14]) (t := 28) ?hr ?_; (case hd => rfl); (case hg => rfl); (case hr => first | (go_simp; done) | (go_simp; rfl)); intro mb GM wm hbm hbb; obtain ⟨p0, p1, p2, p3, p4, p5, p6, p7, p8, p9, p10, p11, p12, p13, p14⟩ := msg_cells hbm; have HM := Aside0.mk hbm; have HB := Aside0.mk hbb; have HMB := Aside0.mk GM; clear hbm hbb GM) | (go_at_call 8; (refine (fairleadlaw17_awake.calls k true _ HUP.out).mono ?_); rintro e w1 ⟨rfl, hB1⟩; clear p0 p1 p2 p3 p4 p5 p6 p7 p8 p9 p10 p11 p12 p13 p14; have HM1 := Aside0.mk (blk_below HM.out hB1); obtain ⟨p0, p1, p2, p3, p4, p5, p6, p7, p8, p9, p10, p11, p12, p13, p14⟩ := msg_cells HM1.out; have HB1 := Aside0.mk (HB.out.trans (hB1.mono HB.out.size)); clear hB1 HM HB) | (go_at_call 9; (with_reducible refine (msg_Encode.calls k a0_0 a0_1 a0_2 a0_3 a0_4 a0_5 a0_6 a0_7 a0_8 a0_9 a0_10 a0_11 a0_12 a0_13 a0_14 c e1 _ HEN.out).mono ?_); rintro e w2 ⟨v2, rfl, hR2, hB2⟩; obtain ⟨A2, cp2, ev2, hcp2, hC2⟩ := Kd.R_reads hR2; subst ev2; clear p0 p1 p2 p3 p4 p5 p6 p7 p8 p9 p10 p11 p12 p13 p14; have HM2 := Aside0.mk (blk_below HM1.out hB2); obtain ⟨p0, p1, p2, p3, p4, p5, p6, p7, p8, p9, p10, p11, p12, p13, p14⟩ := msg_cells HM2.out; have HB2 := Aside0.mk (HB1.out.trans (hB2.mono HB1.out.size)); have HC2 := Aside0.mk hC2; have HP2 := Aside0.mk hcp2; clear hB2 hR2 hC2 hcp2 HM1 HB1) | (go_at_call 13; (with_reducible refine (msg_Decode.calls k A1 c1 l1 (0) (0) (0) (0) (0) (0) (0) (0) (0) (0) (0) (0) (0) (0) (⟨#[]⟩) ee _ (Kd.C_below HR1.out HB2.out) HC1.out HD2.out).mono ?_); rintro e w5 ⟨rfl, hB5⟩; have HB5 := Aside0.mk ((HB2.out).trans (hB5.mono (HB2.out).size)); clear hB5) | ((with_reducible refine gate_dst (N := 10) rfl ?_); refine box_event ?hg (N := 10) ?hd (cs := #[.int .i64 0, .int .u64 0, .int .u64 0, .int .i64 0, .int .i64 0, .int .u32 0, .int .u32 0, .int .u64 0, .int .u64 0, .int .u64 0, .int .u64 0, .int .u64 0, .int .u64 0, .int .u64 0, .string ⟨#[]⟩]) (t := 28) ?hr ?_; (case hd => rfl); (case hg => rfl); (case hr => first | (go_simp; done) | (go_simp; rfl)); intro nbb GN wnb hbn hbb; have HGb := Aside0.mk GN; obtain ⟨nb_0, nb_1, nb_2, nb_3, nb_4, nb_5, nb_6, nb_7, nb_8, nb_9, nb_10, nb_11, nb_12, nb_13, nb_14⟩ := msg_cells hbn; have hfnb := blk_frozen hbn; have HBNb := Aside0.mk (HB5.out.trans (hbb.mono HB5.out.size)); clear hbn GN hbb))
  skip
  go_ret
  exact ⟨rfl, msg_put15b (g := nbb) _ _ _ _ _ _ _ _ _ _ _ _ _ _ _ HBNb.out (by have := HGb.out; have := HB5.out.size; omega)⟩
def fairleadlaw17_MsgBack.g (k : Nat) (l1 : List Int) : Option Bool := (msg_Decode.f k l1).bind fun n => if n.2.2.2.2.2.2.2.2.2.2.2.2.2.2.2 = 0 then ((msg_Encode.f k (n.1) (n.2.1) (n.2.2.1) (n.2.2.2.1) (n.2.2.2.2.1) (n.2.2.2.2.2.1) (n.2.2.2.2.2.2.1) (n.2.2.2.2.2.2.2.1) (n.2.2.2.2.2.2.2.2.1) (n.2.2.2.2.2.2.2.2.2.1) (n.2.2.2.2.2.2.2.2.2.2.1) (n.2.2.2.2.2.2.2.2.2.2.2.1) (n.2.2.2.2.2.2.2.2.2.2.2.2.1) (n.2.2.2.2.2.2.2.2.2.2.2.2.2.1) (n.2.2.2.2.2.2.2.2.2.2.2.2.2.2.1)).bind fun d => if d = (l1, 0) then some true else none) else (if n.1 = 0 ∧ n.2.1 = 0 ∧ n.2.2.1 = 0 ∧ n.2.2.2.1 = 0 ∧ n.2.2.2.2.1 = 0 ∧ n.2.2.2.2.2.1 = 0 ∧ n.2.2.2.2.2.2.1 = 0 ∧ n.2.2.2.2.2.2.2.1 = 0 ∧ n.2.2.2.2.2.2.2.2.1 = 0 ∧ n.2.2.2.2.2.2.2.2.2.1 = 0 ∧ n.2.2.2.2.2.2.2.2.2.2.1 = 0 ∧ n.2.2.2.2.2.2.2.2.2.2.2.1 = 0 ∧ n.2.2.2.2.2.2.2.2.2.2.2.2.1 = 0 ∧ n.2.2.2.2.2.2.2.2.2.2.2.2.2.1 = 0 ∧ n.2.2.2.2.2.2.2.2.2.2.2.2.2.2.1 = (⟨#[]⟩ : ByteArray) then some true else none)
def fairleadlaw17_MsgBack.f (k : Nat) (a0_0 : Int) (a0_1 : Int) (a0_2 : Int) (a0_3 : Int) (a0_4 : Int) (a0_5 : Int) (a0_6 : Int) (a0_7 : Int) (a0_8 : Int) (a0_9 : Int) (a0_10 : Int) (a0_11 : Int) (a0_12 : Int) (a0_13 : Int) (a0_14 : ByteArray) (l1 : List Int) : Option Bool := (fairleadlaw17_awake.f k).bind fun up => if up = true then (if (a0_14.size : Int) > 2000 then some true else (if (l1.length : Int) > 2000 then some true else ((msg_Encode.f k a0_0 a0_1 a0_2 a0_3 a0_4 a0_5 a0_6 a0_7 a0_8 a0_9 a0_10 a0_11 a0_12 a0_13 a0_14).bind fun c => if c.2 = 0 then ((msg_Decode.f k c.1).bind fun n => if n.1 = a0_0 ∧ n.2.1 = a0_1 ∧ n.2.2.1 = a0_2 ∧ n.2.2.2.1 = a0_3 ∧ n.2.2.2.2.1 = a0_4 ∧ n.2.2.2.2.2.1 = a0_5 ∧ n.2.2.2.2.2.2.1 = a0_6 ∧ n.2.2.2.2.2.2.2.1 = a0_7 ∧ n.2.2.2.2.2.2.2.2.1 = a0_8 ∧ n.2.2.2.2.2.2.2.2.2.1 = a0_9 ∧ n.2.2.2.2.2.2.2.2.2.2.1 = a0_10 ∧ n.2.2.2.2.2.2.2.2.2.2.2.1 = a0_11 ∧ n.2.2.2.2.2.2.2.2.2.2.2.2.1 = a0_12 ∧ n.2.2.2.2.2.2.2.2.2.2.2.2.2.1 = a0_13 ∧ n.2.2.2.2.2.2.2.2.2.2.2.2.2.2.1 = a0_14 ∧ n.2.2.2.2.2.2.2.2.2.2.2.2.2.2.2 = 0 ∧ c.1.length ≤ 512 then fairleadlaw17_MsgBack.g k l1 else none) else fairleadlaw17_MsgBack.g k l1))) else none
set_option maxHeartbeats 8000000 in
set_option maxRecDepth 100000 in
theorem fairleadlaw17_MsgBack.calls (k : Nat) (a0_0 : Int) (a0_1 : Int) (a0_2 : Int) (a0_3 : Int) (a0_4 : Int) (a0_5 : Int) (a0_6 : Int) (a0_7 : Int) (a0_8 : Int) (a0_9 : Int) (a0_10 : Int) (a0_11 : Int) (a0_12 : Int) (a0_13 : Int) (a0_14 : ByteArray) (A1 : Option Addr) (c1 : Nat) (l1 : List Int) (r : Bool) (w : World) (hr1 : Kd.C (Kd.int .u8) w A1 l1.length l1) (hc1 : l1.length ≤ c1) (h : fairleadlaw17_MsgBack.f k a0_0 a0_1 a0_2 a0_3 a0_4 a0_5 a0_6 a0_7 a0_8 a0_9 a0_10 a0_11 a0_12 a0_13 a0_14 l1 = some r) :
    Calls Try.prog 5 #[.agg #[.int .i64 a0_0, .int .u64 a0_1, .int .u64 a0_2, .int .i64 a0_3, .int .i64 a0_4, .int .u32 a0_5, .int .u32 a0_6, .int .u64 a0_7, .int .u64 a0_8, .int .u64 a0_9, .int .u64 a0_10, .int .u64 a0_11, .int .u64 a0_12, .int .u64 a0_13, .string a0_14], .slice A1 l1.length c1] w fun e w' => e = .returned (.bool r) ∧ Below w.heap.size w w' := by
  unfold fairleadlaw17_MsgBack.f at h
  replace h := Option.bind_eq_some_iff.mp h
  obtain ⟨up, hup, h⟩ := h
  cases up with
  | false => rw [if_neg (by decide)] at h; cases h
  | true =>
    rw [if_pos rfl] at h
    by_cases s1 : (a0_14.size : Int) > 2000
    · rw [if_pos s1] at h
      obtain rfl := Option.some.inj h
      exact msg_back_big k a0_0 a0_1 a0_2 a0_3 a0_4 a0_5 a0_6 a0_7 a0_8 a0_9 a0_10 a0_11 a0_12 a0_13 a0_14 A1 c1 l1 w hr1 hc1 hup s1
    · rw [if_neg s1] at h
      by_cases s2 : (l1.length : Int) > 2000
      · rw [if_pos s2] at h
        obtain rfl := Option.some.inj h
        exact msg_back_long k a0_0 a0_1 a0_2 a0_3 a0_4 a0_5 a0_6 a0_7 a0_8 a0_9 a0_10 a0_11 a0_12 a0_13 a0_14 A1 c1 l1 w hr1 hc1 hup s1 s2
      · rw [if_neg s2] at h
        replace h := Option.bind_eq_some_iff.mp h
        obtain ⟨⟨c, e1⟩, hen, h⟩ := h
        simp only at h
        by_cases he : e1 = 0
        · rw [if_pos he] at h
          replace h := Option.bind_eq_some_iff.mp h
          obtain ⟨⟨x0, x1, x2, x3, x4, x5, x6, x7, x8, x9, x10, x11, x12, x13, x14, xe⟩, hd1, h⟩ := h
          simp only at h
          by_cases hn : x0 = a0_0 ∧ x1 = a0_1 ∧ x2 = a0_2 ∧ x3 = a0_3 ∧ x4 = a0_4 ∧ x5 = a0_5 ∧ x6 = a0_6 ∧ x7 = a0_7 ∧ x8 = a0_8 ∧ x9 = a0_9 ∧ x10 = a0_10 ∧ x11 = a0_11 ∧ x12 = a0_12 ∧ x13 = a0_13 ∧ x14 = a0_14 ∧ xe = 0 ∧ c.length ≤ 512
          · rw [if_pos hn] at h
            obtain ⟨rfl, rfl, rfl, rfl, rfl, rfl, rfl, rfl, rfl, rfl, rfl, rfl, rfl, rfl, rfl, rfl, hcl⟩ := hn
            unfold fairleadlaw17_MsgBack.g at h
            replace h := Option.bind_eq_some_iff.mp h
            obtain ⟨⟨y0, y1, y2, y3, y4, y5, y6, y7, y8, y9, y10, y11, y12, y13, y14, ee⟩, hd2, h⟩ := h
            simp only at h
            by_cases hz : ee = 0
            · rw [if_pos hz] at h
              replace h := Option.bind_eq_some_iff.mp h
              obtain ⟨d, hen2, h⟩ := h
              by_cases hd : d = (l1, 0)
              · rw [if_pos hd] at h
                obtain rfl := Option.some.inj h
                subst hd
                exact msg_back_11 k _ _ _ _ _ _ _ _ _ _ _ _ _ _ _ A1 c1 l1 w hr1 hc1 hup s1 s2 c e1 hen he hcl hd1 y0 y1 y2 y3 y4 y5 y6 y7 y8 y9 y10 y11 y12 y13 y14 ee hd2 hz hen2
              · rw [if_neg hd] at h; cases h
            · rw [if_neg hz] at h
              by_cases hq : y0 = 0 ∧ y1 = 0 ∧ y2 = 0 ∧ y3 = 0 ∧ y4 = 0 ∧ y5 = 0 ∧ y6 = 0 ∧ y7 = 0 ∧ y8 = 0 ∧ y9 = 0 ∧ y10 = 0 ∧ y11 = 0 ∧ y12 = 0 ∧ y13 = 0 ∧ y14 = (⟨#[]⟩ : ByteArray)
              · rw [if_pos hq] at h
                obtain rfl := Option.some.inj h
                obtain ⟨q0, q1, q2, q3, q4, q5, q6, q7, q8, q9, q10, q11, q12, q13, q14⟩ := hq
                exact msg_back_10 k _ _ _ _ _ _ _ _ _ _ _ _ _ _ _ A1 c1 l1 w hr1 hc1 hup s1 s2 c e1 hen he hcl hd1 y0 y1 y2 y3 y4 y5 y6 y7 y8 y9 y10 y11 y12 y13 y14 ee hd2 hz q0 q1 q2 q3 q4 q5 q6 q7 q8 q9 q10 q11 q12 q13 q14
              · rw [if_neg hq] at h; cases h
          · rw [if_neg hn] at h; cases h
        · rw [if_neg he] at h
          unfold fairleadlaw17_MsgBack.g at h
          replace h := Option.bind_eq_some_iff.mp h
          obtain ⟨⟨y0, y1, y2, y3, y4, y5, y6, y7, y8, y9, y10, y11, y12, y13, y14, ee⟩, hd2, h⟩ := h
          simp only at h
          by_cases hz : ee = 0
          · rw [if_pos hz] at h
            replace h := Option.bind_eq_some_iff.mp h
            obtain ⟨d, hen2, h⟩ := h
            by_cases hd : d = (l1, 0)
            · rw [if_pos hd] at h
              obtain rfl := Option.some.inj h
              subst hd
              exact msg_back_01 k a0_0 a0_1 a0_2 a0_3 a0_4 a0_5 a0_6 a0_7 a0_8 a0_9 a0_10 a0_11 a0_12 a0_13 a0_14 A1 c1 l1 w hr1 hc1 hup s1 s2 c e1 hen he y0 y1 y2 y3 y4 y5 y6 y7 y8 y9 y10 y11 y12 y13 y14 ee hd2 hz hen2
            · rw [if_neg hd] at h; cases h
          · rw [if_neg hz] at h
            by_cases hq : y0 = 0 ∧ y1 = 0 ∧ y2 = 0 ∧ y3 = 0 ∧ y4 = 0 ∧ y5 = 0 ∧ y6 = 0 ∧ y7 = 0 ∧ y8 = 0 ∧ y9 = 0 ∧ y10 = 0 ∧ y11 = 0 ∧ y12 = 0 ∧ y13 = 0 ∧ y14 = (⟨#[]⟩ : ByteArray)
            · rw [if_pos hq] at h
              obtain rfl := Option.some.inj h
              obtain ⟨q0, q1, q2, q3, q4, q5, q6, q7, q8, q9, q10, q11, q12, q13, q14⟩ := hq
              exact msg_back_00 k a0_0 a0_1 a0_2 a0_3 a0_4 a0_5 a0_6 a0_7 a0_8 a0_9 a0_10 a0_11 a0_12 a0_13 a0_14 A1 c1 l1 w hr1 hc1 hup s1 s2 c e1 hen he y0 y1 y2 y3 y4 y5 y6 y7 y8 y9 y10 y11 y12 y13 y14 ee hd2 hz q0 q1 q2 q3 q4 q5 q6 q7 q8 q9 q10 q11 q12 q13 q14
            · rw [if_neg hq] at h; cases h
/-- What is to be shown of fairleadlaw17_MsgBack, without Go and memory. -/
def fairleadlaw17_MsgBack.Pure : Prop := ∀ (a0_0 : Int) (a0_1 : Int) (a0_2 : Int) (a0_3 : Int) (a0_4 : Int) (a0_5 : Int) (a0_6 : Int) (a0_7 : Int) (a0_8 : Int) (a0_9 : Int) (a0_10 : Int) (a0_11 : Int) (a0_12 : Int) (a0_13 : Int) (a0_14 : ByteArray) (l1 : List Int), (((-9223372036854775808) ≤ a0_0 ∧ a0_0 ≤ 9223372036854775807) ∧ (0 ≤ a0_1 ∧ a0_1 ≤ 18446744073709551615) ∧ (0 ≤ a0_2 ∧ a0_2 ≤ 18446744073709551615) ∧ ((-9223372036854775808) ≤ a0_3 ∧ a0_3 ≤ 9223372036854775807) ∧ ((-9223372036854775808) ≤ a0_4 ∧ a0_4 ≤ 9223372036854775807) ∧ ((0 ≤ a0_5 ∧ a0_5 ≤ 4294967295) ∧ (0 ≤ a0_6 ∧ a0_6 ≤ 4294967295) ∧ (0 ≤ a0_7 ∧ a0_7 ≤ 18446744073709551615) ∧ ((0 ≤ a0_8 ∧ a0_8 ≤ 18446744073709551615) ∧ (0 ≤ a0_9 ∧ a0_9 ≤ 18446744073709551615) ∧ (0 ≤ a0_10 ∧ a0_10 ≤ 18446744073709551615) ∧ (0 ≤ a0_11 ∧ a0_11 ≤ 18446744073709551615) ∧ (0 ≤ a0_12 ∧ a0_12 ≤ 18446744073709551615) ∧ (0 ≤ a0_13 ∧ a0_13 ≤ 18446744073709551615))) ∧ (a0_14.size ≤ 9223372036854775807)) → (l1.length ≤ 9223372036854775807 ∧ ∀ x ∈ l1, 0 ≤ x ∧ x ≤ 255) → ∃ k, fairleadlaw17_MsgBack.f k a0_0 a0_1 a0_2 a0_3 a0_4 a0_5 a0_6 a0_7 a0_8 a0_9 a0_10 a0_11 a0_12 a0_13 a0_14 l1 = some true

end Go.Proofs.Ytadglbmghldnfaa.M
