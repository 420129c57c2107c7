-- Laid by a program (wip/tools/myprint.py) out of the loaded program's own print: for each Go function a Lean function and the proof of its contract.
import Derived.Test.YtfahchgglapglaaQMx0
import Derived.Test.YtfahchgglapglaaQMx14
import Derived.Test.YtfahchgglapglaaQMx15
import Derived.Test.YtfahchgglapglaaQMx16
import Derived.Test.YtfahchgglapglaaQMx17
import Derived.Test.YtfahchgglapglaaQMx18
namespace Go.Proofs.Ytfahchgglapglaa.M
open Go.RowKit Go.Proofs.YtfahchgglapglaaW.PrintWords Go.Proofs.YtfahchgglapglaaW.PrintLast Go.Proofs.YtfahchgglapglaaW.PrintMore
attribute [local go_sem] max2_int min2_int max_two min_two max_three min_three max_four min_four   -- for this text's walks alone
set_option linter.unusedVariables false
set_option linter.unusedSimpArgs false
-- HAND rounds=True making=True
open Mine
theorem cell_far3_ {w : World} {a : Addr} {v : Value} (h : w.cell? a = some v) {g : Nat} (hne : a.block ≠ g) (v0 v1 v2 : Value) : (((w.setCell ⟨g, 0, none⟩ v0).setCell ⟨g, 1, none⟩ v1).setCell ⟨g, 2, none⟩ v2).cell? a = some v :=
 (World.cell?_of_block (w := w) (show (((w.setCell ⟨g, 0, none⟩ v0).setCell ⟨g, 1, none⟩ v1).setCell ⟨g, 2, none⟩ v2).heap[a.block]? = w.heap[a.block]? from (Below.heap_setCell _ _ _ _ hne).trans ((Below.heap_setCell _ _ _ _ hne).trans (Below.heap_setCell _ _ _ _ hne)))).trans h
theorem plRow {α : Type} {d : Kd α} {e B g gr gx : Nat} {w wb w' : World} {v vs : Value} {xs : List α} (h : d.R e w' B (fun k => k ≠ g ∧ wb.heap.size ≤ k) v xs) (ho : One g w wb) (l2 : gr < wb.heap.size) (l3 : gx < wb.heap.size) (hown : ∀ k, vs.ownBlock = some k → k < wb.heap.size) : d.R e w' B (fun k => ((k ≠ g ∧ k ≠ gr ∧ k ≠ gx ∧ w.heap.size ≤ k) ∧ some k ≠ vs.ownBlock) ∧ wb.heap.size ≤ k) v xs :=
 Kd.R_mono h (fun k hk => ⟨⟨⟨hk.1, by have := hk.2; omega, by have := hk.2; omega, Nat.le_trans ho.size hk.2⟩, fun e => by have := hown k e.symm; have := hk.2; omega⟩, hk.2⟩)
/-- The rules, one by one, to the end, or to what is wrong. -/
def fairleadref10_Parse.l0 : Nat → List S39 → Int → Int → Int → List S44 → Option (List S44 × Int × Int)
 | 0, _, _, _, _, _ => none
 | k + 1, L, n, e, a, rs => if e = 0 then (if 0 ≤ n ∧ n < (L.length : Int) then (if (rd_T39 L n).f0 = 4 then some (rs, 0, a) else if rs.length < 1000 then (fairleadref10_Place_rule.f k L n 0 a (wrap64 ((rs.length : Int) + 1))).bind fun x => fairleadref10_Parse.l0 k L x.2.1 x.2.2.1 x.2.2.2 (rs ++ [x.1]) else none) else none) else some (rs, e, a)
/-- The tokens' rules. -/
def fairleadref10_Parse.g (k : Nat) (L : List S39) : Option (Int × Int × List S44 × Int × Int) :=
 if 0 ≤ (0 : Int) ∧ (0 : Int) < (L.length : Int) then (if ((rd_T39 L 0).f0 = 1 ∧ (rd_T39 L 0).f2.toList = (⟨#[100, 101, 102, 97, 117, 108, 116]⟩ : ByteArray).toList) then (fairleadref10_Place_act.f k L 1 0 0).bind fun v => if v.2.2.2.1 = 0 then
   (fairleadref10_Place_sign.f L v.2.2.1 0 v.2.2.2.2 ⟨#[59]⟩).bind fun s => (fairleadref10_Parse.l0 k L s.1 s.2.1 s.2.2 []).bind fun r => if r.2.1 = 0 then some (v.1, v.2.1, r.1, 0, -1) else some (0, 0, [], r.2.1, r.2.2)
   else some (0, 0, [], v.2.2.2.1, v.2.2.2.2)
  else some (0, 0, [], 7, (rd_T39 L 0).f1)) else none
def fairleadref10_Parse.f (k : Nat) (a0 : ByteArray) : Option (Int × Int × List S44 × Int × Int) := (fairleadref09_All.f k a0).bind fun l => if l.2.1 = 0 then fairleadref10_Parse.g k l.1 else some (0, 0, [], l.2.1, l.2.2)
set_option maxHeartbeats 8000000 in
set_option maxRecDepth 100000 in
theorem fairleadref10_Parse.we (k : Nat) (a0 : ByteArray) (L : List S39) (er p : Int) (he : er ≠ 0) (HLX : Aside0 (fairleadref09_All.f k a0 = some (L, er, p))) (wi : World) :
  Calls Try.prog 11 #[.string a0] wi (fun e w' => ∃ v0_ : Value, e = .returned (.tuple #[.agg #[.int .i64 0, .int .i64 0, v0_], .int .i64 er, .int .i64 p]) ∧ Kd.S k44 44 w' wi.heap.size (fun _ => True) v0_ [] ∧ Below wi.heap.size wi w') := by
 have hu := Try.underlying39
 have hu27 := Try.underlying27
 have hu24 := Try.underlying24
 have hu44 := Try.underlying44
 have hu60 := Try.underlying60
 have e1 := bne_iff_ne.mpr he
 clear he
 go_enter Try.func11, Try.ntmps11
 go_wp2_with (first | (go_at_call 21; (with_reducible refine (fairleadref09_All.calls k a0 L er p _ HLX.out).mono ?_); rintro e_ w0 ⟨v0, rfl, hR, hb⟩; obtain ⟨A0, c0, rfl⟩ := Kd.R_slice hR; have B4_gr := amp (blk_below (blk_new wi (Obj.cells #[.int .i64 0, .int .i64 0, .slice none 0 0] 27)) hb); have HB4 := amp ((below_alloc (Below.refl wi.heap.size wi) (Obj.cells #[.int .i64 0, .int .i64 0, .slice none 0 0] 27)).trans (hb.mono (below_alloc (Below.refl wi.heap.size wi) (Obj.cells #[.int .i64 0, .int .i64 0, .slice none 0 0] 27)).size)); have KC := amp (Kd.R_reads' hR).2.2; obtain ⟨gr, hgr⟩ : ∃ x, x = wi.heap.size := ⟨_, rfl⟩; rw [← hgr] at B4_gr; rw [← hgr]; have GRI := amp (Nat.le_of_eq hgr.symm); clear hR hb hgr; have c4_0 := (blk_cell B4_gr.out 0).trans (show _ = some (.int .i64 0 : Value) from rfl); have c4_1 := (blk_cell B4_gr.out 1).trans (show _ = some (.int .i64 0 : Value) from rfl); have c4_2 := (blk_cell B4_gr.out 2).trans (show _ = some (.slice none 0 0 : Value) from rfl); have f4 := fun j => blk_frozen B4_gr.out j))
 (repeat (go_step3; (try go_wp2)))
 refine bodyPost_ret (results_ctt rfl _ _ gr 27 (#[.int .i64 0, .int .i64 0, .slice none 0 0]) (0, 0) _ rfl (blk_put (cs' := #[.int .i64 0, .int .i64 0, .slice none 0 0]) (blk_put (cs' := #[.int .i64 0, .int .i64 0, .slice none 0 0]) (blk_put (cs' := #[.int .i64 0, .int .i64 0, .slice none 0 0]) B4_gr.out 0 (.int .i64 0) rfl) 1 (.int .i64 0) rfl) 2 (.slice none 0 0) rfl) hu27 rfl (by kernel_rfl)) rfl ?_
 exact ⟨_, rfl, Kd.S_nil _ _ _ _ _, (below_set (g := gr) (j := 2) (v := .slice none 0 0) (below_set (g := gr) (j := 1) (v := .int .i64 0) (below_set (g := gr) (j := 0) (v := .int .i64 0) HB4.out GRI.out) GRI.out) GRI.out)⟩
set_option maxHeartbeats 8000000 in
set_option maxRecDepth 100000 in
theorem fairleadref10_Parse.wf (k : Nat) (a0 : ByteArray) (L : List S39) (p : Int) (HLX : Aside0 (fairleadref09_All.f k a0 = some (L, 0, p))) (z0 : Aside0 ((0 : Int) ≤ 0)) (z1 : Aside0 ((0 : Int) < (L.length : Int))) (A1 : Aside0 (false = decide ((rd_T39 L 0).f0 = 1 ∧ (rd_T39 L 0).f2.toList = (⟨#[100, 101, 102, 97, 117, 108, 116]⟩ : ByteArray).toList))) (HF : Aside0 (fairleadref10_Place_fail.f L 0 0 0 7 = some (0, 7, (rd_T39 L 0).f1))) (wi : World) :
  Calls Try.prog 11 #[.string a0] wi (fun e w' => ∃ v0_ : Value, e = .returned (.tuple #[.agg #[.int .i64 0, .int .i64 0, v0_], .int .i64 7, .int .i64 (rd_T39 L 0).f1]) ∧ Kd.S k44 44 w' wi.heap.size (fun _ => True) v0_ [] ∧ Below wi.heap.size wi w') := by
 have hu := Try.underlying39
 have hu27 := Try.underlying27
 have hu24 := Try.underlying24
 have hu44 := Try.underlying44
 have hu60 := Try.underlying60
 have ez : ((0 : Int) != 0) = false := rfl
 go_enter Try.func11, Try.ntmps11
 go_wp2_with (first | (go_at_call 21; (with_reducible refine (fairleadref09_All.calls k a0 L 0 p _ HLX.out).mono ?_); rintro e_ w0 ⟨v0, rfl, hR, hb⟩; obtain ⟨A0, c0, rfl⟩ := Kd.R_slice hR; have B4_gr := amp (blk_below (blk_new wi (Obj.cells #[.int .i64 0, .int .i64 0, .slice none 0 0] 27)) hb); have HB4 := amp ((below_alloc (Below.refl wi.heap.size wi) (Obj.cells #[.int .i64 0, .int .i64 0, .slice none 0 0] 27)).trans (hb.mono (below_alloc (Below.refl wi.heap.size wi) (Obj.cells #[.int .i64 0, .int .i64 0, .slice none 0 0] 27)).size)); have KC := amp (Kd.R_reads' hR).2.2; obtain ⟨gr, hgr⟩ : ∃ x, x = wi.heap.size := ⟨_, rfl⟩; rw [← hgr] at B4_gr; rw [← hgr]; have GRI := amp (Nat.le_of_eq hgr.symm); clear hR hb hgr; have c4_0 := (blk_cell B4_gr.out 0).trans (show _ = some (.int .i64 0 : Value) from rfl); have c4_1 := (blk_cell B4_gr.out 1).trans (show _ = some (.int .i64 0 : Value) from rfl); have c4_2 := (blk_cell B4_gr.out 2).trans (show _ = some (.slice none 0 0 : Value) from rfl); have f4 := fun j => blk_frozen B4_gr.out j) | ((with_reducible refine gate_dst (N := 23) rfl ?_); refine box_event rfl (N := 23) rfl (cs := #[.slice A0 L.length c0, .int .i64 0, .int .i64 0, .int .i64 0]) (t := 60) (by first | (go_simp; done) | (go_simp; rfl)) ?_; intro g hg w hbox hb; have L5 : Aside0 (IsPl w0 w g L 0 0 0) := ⟨⟨A0, c0, hbox, by rw [hg]; exact Nat.le_refl _, KC.out, hb⟩⟩; have O5 := amp (One.refl g w); have B5_gr := amp (blk_below B4_gr.out hb); have NG_gr := amp (show gr ≠ g from by rw [hg]; exact Nat.ne_of_lt (blk_lt B4_gr.out)); have HW0 := amp HB4.out.size; have HBw := amp (HB4.out.trans (hb.mono HB4.out.size)); have GGI := amp (show wi.heap.size ≤ g from by rw [hg]; exact HB4.out.size); clear hbox hb hg B4_gr HB4 KC c4_0 c4_1 c4_2 f4; have m1_gr := NG_gr.out; have m2_gr := Ne.symm NG_gr.out; have c5_0 := (blk_cell B5_gr.out 0).trans (show _ = some (.int .i64 0 : Value) from rfl); have c5_1 := (blk_cell B5_gr.out 1).trans (show _ = some (.int .i64 0 : Value) from rfl); have c5_2 := (blk_cell B5_gr.out 2).trans (show _ = some (.slice none 0 0 : Value) from rfl); have f5 := fun j => blk_frozen B5_gr.out j; have q5 := L5.out.c1; have wr5 := L5.out.c2; have r5_ := L5.out.fr 1; have NG_gx := amp (Nat.ne_of_gt (IsPl.lt L5.out)); have GT_gx := amp (One.size O5.out); have GW_gx := amp (Below.size (IsPl.bw L5.out)); have NE_gx_gr := amp (Nat.ne_of_gt (blk_lt B5_gr.out)); have m1_gx := NG_gx.out; have m2_gx := Ne.symm NG_gx.out; have m3_gx_gr := NE_gx_gr.out; have m4_gx_gr := Ne.symm NE_gx_gr.out; have qa_gx := (IsPl.alloc L5.out (Obj.cells #[.int .i64 0, .int .i64 0, .slice none 0 0] 27)).c1; have wra_gx := (IsPl.alloc L5.out (Obj.cells #[.int .i64 0, .int .i64 0, .slice none 0 0] 27)).c2; have ra_gx := (IsPl.alloc L5.out (Obj.cells #[.int .i64 0, .int .i64 0, .slice none 0 0] 27)).fr 1) | (go_at_call 22; (with_reducible refine (pl_is g L 0 0 0 1 ⟨#[100, 101, 102, 97, 117, 108, 116]⟩ false w0 _ (IsPl.alloc L5.out _) z0.out z1.out A1.out).mono ?_); rintro e_ w6 ⟨rfl, hR_, hO_⟩; have B6_gr := amp (One.blk hO_ (blk_alloc B5_gr.out _) NG_gr.out); have B6_gx := amp (One.blk hO_ (blk_new w _) NG_gx.out); have L6 := amp (hR_); have O6 := amp (One.trans (One.alloc O5.out _) hO_); clear hO_ hR_; generalize hgen_ : w.heap.size = gx at B6_gx NG_gx GW_gx NE_gx_gr m1_gx m2_gx m3_gx_gr m4_gx_gr ⊢; clear GT_gx; have GT_gx := amp (Nat.le_of_eq hgen_); clear hgen_; try clear L5 O5 B5_gr c5_0 c5_1 c5_2 f5 q5 wr5 r5_ qa_gx wra_gx ra_gx; have c6_gr_0 := (blk_cell B6_gr.out 0).trans (show _ = some (.int .i64 0 : Value) from rfl); have c6_gr_1 := (blk_cell B6_gr.out 1).trans (show _ = some (.int .i64 0 : Value) from rfl); have c6_gr_2 := (blk_cell B6_gr.out 2).trans (show _ = some (.slice none 0 0 : Value) from rfl); have f6_gr := fun j => blk_frozen B6_gr.out j; have c6_gx_0 := (blk_cell B6_gx.out 0).trans (show _ = some (.int .i64 0 : Value) from rfl); have c6_gx_1 := (blk_cell B6_gx.out 1).trans (show _ = some (.int .i64 0 : Value) from rfl); have c6_gx_2 := (blk_cell B6_gx.out 2).trans (show _ = some (.slice none 0 0 : Value) from rfl); have f6_gx := fun j => blk_frozen B6_gx.out j; have q6 := L6.out.c1; have wr6 := L6.out.c2; have r6 := L6.out.fr 1; try clear hO_ hR_) | (go_at_call 23; (with_reducible refine (pl_fail g L 0 0 0 7 0 7 (rd_T39 L 0).f1 w0 _ L6.out HF.out).mono ?_); rintro e_ w7 ⟨rfl, hR_, hO_⟩; have B7_gr := amp (One.blk hO_ B6_gr.out NG_gr.out); have B7_gx := amp (One.blk hO_ B6_gx.out NG_gx.out); have L7 := amp (hR_); have O7 := amp (One.trans O6.out hO_); try clear L6 O6 B6_gr B6_gx c6_gr_0 c6_gr_1 c6_gr_2 f6_gr c6_gx_0 c6_gx_1 c6_gx_2 f6_gx q6 wr6 r6; have c7_gr_0 := (blk_cell B7_gr.out 0).trans (show _ = some (.int .i64 0 : Value) from rfl); have c7_gr_1 := (blk_cell B7_gr.out 1).trans (show _ = some (.int .i64 0 : Value) from rfl); have c7_gr_2 := (blk_cell B7_gr.out 2).trans (show _ = some (.slice none 0 0 : Value) from rfl); have f7_gr := fun j => blk_frozen B7_gr.out j; have c7_gx_0 := (blk_cell B7_gx.out 0).trans (show _ = some (.int .i64 0 : Value) from rfl); have c7_gx_1 := (blk_cell B7_gx.out 1).trans (show _ = some (.int .i64 0 : Value) from rfl); have c7_gx_2 := (blk_cell B7_gx.out 2).trans (show _ = some (.slice none 0 0 : Value) from rfl); have f7_gx := fun j => blk_frozen B7_gx.out j; have q7 := L7.out.c1; have wr7 := L7.out.c2; have r7 := L7.out.fr 1; try clear hO_ hR_))
 go_loopg [] 0 (fun kq w' => Aside0 (IsPl w0 w' g L 0 7 (rd_T39 L 0).f1) ∧ Aside0 (One g w w') ∧ Aside0 (w'.heap[gr]? = some (.cells #[.int .i64 0, .int .i64 0, .slice none 0 0] 27 (0, 0))) ∧ Aside0 (w'.heap[gx]? = some (.cells #[.int .i64 0, .int .i64 0, .slice none 0 0] 27 (0, 0))))
 case atStart => exact ⟨⟨L7.out⟩, ⟨O7.out⟩, ⟨B7_gr.out⟩, ⟨B7_gx.out⟩⟩
 case round =>
  try clear c7_gr_0 c7_gr_1 c7_gr_2 f7_gr c7_gx_0 c7_gx_1 c7_gx_2 f7_gx q7 wr7 r7 L7 O7 B7_gr B7_gx
  obtain ⟨yL, yO, yBr, yBx⟩ := hrel
  have yc0 := (blk_cell yBr.out 0).trans (show _ = some (.int .i64 0 : Value) from rfl)
  have yc1 := (blk_cell yBr.out 1).trans (show _ = some (.int .i64 0 : Value) from rfl)
  have yc2 := (blk_cell yBr.out 2).trans (show _ = some (.slice none 0 0 : Value) from rfl)
  have yd0 := (blk_cell yBx.out 0).trans (show _ = some (.int .i64 0 : Value) from rfl)
  have yd1 := (blk_cell yBx.out 1).trans (show _ = some (.int .i64 0 : Value) from rfl)
  have yd2 := (blk_cell yBx.out 2).trans (show _ = some (.slice none 0 0 : Value) from rfl)
  have yf := fun j => blk_frozen yBr.out j
  have yh := fun j => blk_frozen yBx.out j
  go_wp2
  have B21_gr := amp (blk_drew yBr.out)
  have B21_gx := amp (blk_drew yBx.out)
  have L21 := amp (IsPl.drew yL.out)
  have O21 := amp (One.drew yO.out)
  clear yL yO yBr yBx
  have z2_ := L21.out.c2
  refine start_ (n := 19) (S := fun w' => w'.cell? ⟨g, 2, none⟩ = some (.int .i64 7)) (ds := []) #[false, false, false, false, false, false, false, false, false, false, false, false, false, false, false, false, false, false, false] (by kernel_rfl) rfl rfl (z2_) (fun hHeld => ?_)
  refine Mine.pS 0 (some 47) ?_; refine Mine.pS 1 (some 48) ?_; refine Mine.pS 2 (some 49) ?_; refine Mine.tS 3 (some 50) hHeld ?_; refine Mine.pS 4 (some 51) ?_; refine Mine.pS 5 (some 52) ?_; refine Mine.pO 6 (some 53) ?_; refine Mine.pO 7 (some 54) ?_; refine Mine.pO 8 (some 55) ?_; refine Mine.pO 9 (some 56) ?_; refine Mine.pO 10 (some 57) ?_; refine Mine.pO 11 (some 58) ?_; refine Mine.pO 12 (some 59) ?_; refine Mine.pO 13 (some 60) ?_; refine Mine.pO 14 (some 61) ?_; refine Mine.pO 15 (some 62) ?_; refine Mine.pO 16 (some 63) ?_; refine Mine.pO 17 (some 64) ?_; refine Mine.pS 18 (some 65) ?_
  refine done_ (by kernel_rfl) ?_
  clear z2_
  have c21_gr_0 := (blk_cell B21_gr.out 0).trans (show _ = some (.int .i64 0 : Value) from rfl)
  have c21_gr_1 := (blk_cell B21_gr.out 1).trans (show _ = some (.int .i64 0 : Value) from rfl)
  have c21_gr_2 := (blk_cell B21_gr.out 2).trans (show _ = some (.slice none 0 0 : Value) from rfl)
  have f21_gr := fun j => blk_frozen B21_gr.out j
  have c21_gx_0 := (blk_cell B21_gx.out 0).trans (show _ = some (.int .i64 0 : Value) from rfl)
  have c21_gx_1 := (blk_cell B21_gx.out 1).trans (show _ = some (.int .i64 0 : Value) from rfl)
  have c21_gx_2 := (blk_cell B21_gx.out 2).trans (show _ = some (.slice none 0 0 : Value) from rfl)
  have f21_gx := fun j => blk_frozen B21_gx.out j
  have q21 := L21.out.c1
  have wr21 := L21.out.c2
  have r21 := L21.out.fr 1
  go_wp2
  have B22_gr := amp (blk_drew B21_gr.out)
  have B22_gx := amp (blk_drew B21_gx.out)
  have L22 := amp (IsPl.drew L21.out)
  have O22 := amp (One.drew O21.out)
  clear L21 O21 B21_gr B21_gx c21_gr_0 c21_gr_1 c21_gr_2 f21_gr c21_gx_0 c21_gx_1 c21_gx_2 f21_gx q21 wr21 r21
  have z2_ := L22.out.c2
  have z3_ := L22.out.c3
  have c22_gr_0 := (blk_cell B22_gr.out 0).trans (show _ = some (.int .i64 0 : Value) from rfl)
  have c22_gr_1 := (blk_cell B22_gr.out 1).trans (show _ = some (.int .i64 0 : Value) from rfl)
  have c22_gr_2 := (blk_cell B22_gr.out 2).trans (show _ = some (.slice none 0 0 : Value) from rfl)
  have f22_gr := fun j => blk_frozen B22_gr.out j
  have c22_gx_0 := (blk_cell B22_gx.out 0).trans (show _ = some (.int .i64 0 : Value) from rfl)
  have c22_gx_1 := (blk_cell B22_gx.out 1).trans (show _ = some (.int .i64 0 : Value) from rfl)
  have c22_gx_2 := (blk_cell B22_gx.out 2).trans (show _ = some (.slice none 0 0 : Value) from rfl)
  have f22_gx := fun j => blk_frozen B22_gx.out j
  have q22 := L22.out.c1
  have wr22 := L22.out.c2
  have r22 := L22.out.fr 1
  refine start_ (n := 12) (S := fun w' => w'.cell? ⟨g, 2, none⟩ = some (.int .i64 7) ∧ w'.cell? ⟨g, 3, none⟩ = some (.int .i64 (rd_T39 L 0).f1)) (ds := []) #[false, false, false, false, false, false, false, false, false, false, false, false] (by kernel_rfl) rfl rfl ⟨z2_, z3_⟩ (fun hHeld => ?_)
  refine Mine.pS 0 (some 82) ?_; refine Mine.pS 1 (some 83) ?_; refine Mine.pS 2 (some 84) ?_; refine Mine.pS 3 (some 85) ?_; refine Mine.pS 5 (some 87) ?_; refine Mine.pS 6 (some 88) ?_; refine Mine.pS 7 (some 89) ?_; refine Mine.tS 4 (some 86) hHeld ?_; refine Mine.tS 8 (some 90) hHeld ?_
  refine one_ (i := 9) (N := none) #[true, true, true, true, true, true, true, true, true, true, false, false] rfl rfl (by kernel_rfl) (by decide) (fun K hK => ?_)
  refine skip_ (w1 := ?_) (by rfl) rfl ?_ ?_
  rotate_left
  ·go_simp
   rfl
  refine hK.out _ _ ⟨(cell_far3_ z2_ (Ne.symm NG_gr.out) _ _ _), (cell_far3_ z3_ (Ne.symm NG_gr.out) _ _ _)⟩ (fun hHeld => ?_)
  clear hK K
  refine Mine.pS 10 (some 3) ?_; refine Mine.pS 11 (some 4) ?_
  refine done_ (by kernel_rfl) ?_
  go_wp2
  (repeat (go_step3; (try go_wp2)))
  refine bodyPost_ret (results_ctt rfl _ _ gr 27 (#[.int .i64 0, .int .i64 0, .slice none 0 0]) (0, 0) _ rfl (blk_put (cs' := #[.int .i64 0, .int .i64 0, .slice none 0 0]) (blk_put (cs' := #[.int .i64 0, .int .i64 0, .slice none 0 0]) (blk_put (cs' := #[.int .i64 0, .int .i64 0, .slice none 0 0]) B22_gr.out 0 (.int .i64 0) rfl) 1 (.int .i64 0) rfl) 2 (.slice none 0 0) rfl) hu27 rfl (by kernel_rfl)) rfl ?_
  exact ⟨_, rfl, Kd.S_nil _ _ _ _ _, (below_set (g := gr) (j := 2) (v := .slice none 0 0) (below_set (g := gr) (j := 1) (v := .int .i64 0) (below_set (g := gr) (j := 0) (v := .int .i64 0) ((O22.out).toBelow HBw.out HBw.out.size GGI.out) GRI.out) GRI.out) GRI.out)⟩
set_option maxHeartbeats 8000000 in
set_option maxRecDepth 100000 in
theorem fairleadref10_Parse.wa (k : Nat) (a0 : ByteArray) (L : List S39) (p : Int) (HLX : Aside0 (fairleadref09_All.f k a0 = some (L, 0, p))) (z0 : Aside0 ((0 : Int) ≤ 0)) (z1 : Aside0 ((0 : Int) < (L.length : Int))) (A1 : Aside0 (true = decide ((rd_T39 L 0).f0 = 1 ∧ (rd_T39 L 0).f2.toList = (⟨#[100, 101, 102, 97, 117, 108, 116]⟩ : ByteArray).toList))) (kd ar n1 e1 a1 : Int) (he : e1 ≠ 0) (HA : Aside0 (fairleadref10_Place_act.f k L 1 0 0 = some (kd, ar, n1, e1, a1))) (wi : World) :
  Calls Try.prog 11 #[.string a0] wi (fun e w' => ∃ v0_ : Value, e = .returned (.tuple #[.agg #[.int .i64 0, .int .i64 0, v0_], .int .i64 e1, .int .i64 a1]) ∧ Kd.S k44 44 w' wi.heap.size (fun _ => True) v0_ [] ∧ Below wi.heap.size wi w') := by
 have hu := Try.underlying39
 have hu27 := Try.underlying27
 have hu24 := Try.underlying24
 have hu44 := Try.underlying44
 have hu60 := Try.underlying60
 have ez : ((0 : Int) != 0) = false := rfl
 go_enter Try.func11, Try.ntmps11
 have y1 := beq_eq_false_iff_ne.2 he
 have y2 := bne_iff_ne.2 he
 go_wp2_with (first | (go_at_call 21; (with_reducible refine (fairleadref09_All.calls k a0 L 0 p _ HLX.out).mono ?_); rintro e_ w0 ⟨v0, rfl, hR, hb⟩; obtain ⟨A0, c0, rfl⟩ := Kd.R_slice hR; have B4_gr := amp (blk_below (blk_new wi (Obj.cells #[.int .i64 0, .int .i64 0, .slice none 0 0] 27)) hb); have HB4 := amp ((below_alloc (Below.refl wi.heap.size wi) (Obj.cells #[.int .i64 0, .int .i64 0, .slice none 0 0] 27)).trans (hb.mono (below_alloc (Below.refl wi.heap.size wi) (Obj.cells #[.int .i64 0, .int .i64 0, .slice none 0 0] 27)).size)); have KC := amp (Kd.R_reads' hR).2.2; obtain ⟨gr, hgr⟩ : ∃ x, x = wi.heap.size := ⟨_, rfl⟩; rw [← hgr] at B4_gr; rw [← hgr]; have GRI := amp (Nat.le_of_eq hgr.symm); clear hR hb hgr; have c4_0 := (blk_cell B4_gr.out 0).trans (show _ = some (.int .i64 0 : Value) from rfl); have c4_1 := (blk_cell B4_gr.out 1).trans (show _ = some (.int .i64 0 : Value) from rfl); have c4_2 := (blk_cell B4_gr.out 2).trans (show _ = some (.slice none 0 0 : Value) from rfl); have f4 := fun j => blk_frozen B4_gr.out j) | ((with_reducible refine gate_dst (N := 23) rfl ?_); refine box_event rfl (N := 23) rfl (cs := #[.slice A0 L.length c0, .int .i64 0, .int .i64 0, .int .i64 0]) (t := 60) (by first | (go_simp; done) | (go_simp; rfl)) ?_; intro g hg w hbox hb; have L5 : Aside0 (IsPl w0 w g L 0 0 0) := ⟨⟨A0, c0, hbox, by rw [hg]; exact Nat.le_refl _, KC.out, hb⟩⟩; have O5 := amp (One.refl g w); have B5_gr := amp (blk_below B4_gr.out hb); have NG_gr := amp (show gr ≠ g from by rw [hg]; exact Nat.ne_of_lt (blk_lt B4_gr.out)); have HW0 := amp HB4.out.size; have HBw := amp (HB4.out.trans (hb.mono HB4.out.size)); have GGI := amp (show wi.heap.size ≤ g from by rw [hg]; exact HB4.out.size); clear hbox hb hg B4_gr HB4 KC c4_0 c4_1 c4_2 f4; have m1_gr := NG_gr.out; have m2_gr := Ne.symm NG_gr.out; have c5_0 := (blk_cell B5_gr.out 0).trans (show _ = some (.int .i64 0 : Value) from rfl); have c5_1 := (blk_cell B5_gr.out 1).trans (show _ = some (.int .i64 0 : Value) from rfl); have c5_2 := (blk_cell B5_gr.out 2).trans (show _ = some (.slice none 0 0 : Value) from rfl); have f5 := fun j => blk_frozen B5_gr.out j; have q5 := L5.out.c1; have wr5 := L5.out.c2; have r5_ := L5.out.fr 1; have NG_gx := amp (Nat.ne_of_gt (IsPl.lt L5.out)); have GT_gx := amp (One.size O5.out); have GW_gx := amp (Below.size (IsPl.bw L5.out)); have NE_gx_gr := amp (Nat.ne_of_gt (blk_lt B5_gr.out)); have m1_gx := NG_gx.out; have m2_gx := Ne.symm NG_gx.out; have m3_gx_gr := NE_gx_gr.out; have m4_gx_gr := Ne.symm NE_gx_gr.out; have qa_gx := (IsPl.alloc L5.out (Obj.cells #[.int .i64 0, .int .i64 0, .slice none 0 0] 27)).c1; have wra_gx := (IsPl.alloc L5.out (Obj.cells #[.int .i64 0, .int .i64 0, .slice none 0 0] 27)).c2; have ra_gx := (IsPl.alloc L5.out (Obj.cells #[.int .i64 0, .int .i64 0, .slice none 0 0] 27)).fr 1) | (go_at_call 22; (with_reducible refine (pl_is g L 0 0 0 1 ⟨#[100, 101, 102, 97, 117, 108, 116]⟩ true w0 _ (IsPl.alloc L5.out _) z0.out z1.out A1.out).mono ?_); rintro e_ w6 ⟨rfl, hR_, hO_⟩; have B6_gr := amp (One.blk hO_ (blk_alloc B5_gr.out _) NG_gr.out); have B6_gx := amp (One.blk hO_ (blk_new w _) NG_gx.out); have L6 := amp (hR_); have O6 := amp (One.trans (One.alloc O5.out _) hO_); clear hO_ hR_; generalize hgen_ : w.heap.size = gx at B6_gx NG_gx GW_gx NE_gx_gr m1_gx m2_gx m3_gx_gr m4_gx_gr ⊢; clear GT_gx; have GT_gx := amp (Nat.le_of_eq hgen_); clear hgen_; try clear L5 O5 B5_gr c5_0 c5_1 c5_2 f5 q5 wr5 r5_ qa_gx wra_gx ra_gx; have c6_gr_0 := (blk_cell B6_gr.out 0).trans (show _ = some (.int .i64 0 : Value) from rfl); have c6_gr_1 := (blk_cell B6_gr.out 1).trans (show _ = some (.int .i64 0 : Value) from rfl); have c6_gr_2 := (blk_cell B6_gr.out 2).trans (show _ = some (.slice none 0 0 : Value) from rfl); have f6_gr := fun j => blk_frozen B6_gr.out j; have c6_gx_0 := (blk_cell B6_gx.out 0).trans (show _ = some (.int .i64 0 : Value) from rfl); have c6_gx_1 := (blk_cell B6_gx.out 1).trans (show _ = some (.int .i64 0 : Value) from rfl); have c6_gx_2 := (blk_cell B6_gx.out 2).trans (show _ = some (.slice none 0 0 : Value) from rfl); have f6_gx := fun j => blk_frozen B6_gx.out j; have q6 := L6.out.c1; have wr6 := L6.out.c2; have r6 := L6.out.fr 1; try clear hO_ hR_) | (go_at_call 24; (with_reducible refine (pl_act k g L 1 0 0 kd ar n1 e1 a1 w0 _ (IsPl.set L6.out 1) HA.out).mono ?_); rintro e_ w7 ⟨rfl, hR_, hO_⟩; have B7_gr := amp (One.blk hO_ (blk_far B6_gr.out NG_gr.out _) NG_gr.out); have B7_gx := amp (One.blk hO_ (blk_far B6_gx.out NG_gx.out _) NG_gx.out); have L7 := amp (hR_); have O7 := amp (One.trans (One.setCell O6.out 1 _) hO_); try clear L6 O6 B6_gr B6_gx c6_gr_0 c6_gr_1 c6_gr_2 f6_gr c6_gx_0 c6_gx_1 c6_gx_2 f6_gx q6 wr6 r6; have c7_gr_0 := (blk_cell B7_gr.out 0).trans (show _ = some (.int .i64 0 : Value) from rfl); have c7_gr_1 := (blk_cell B7_gr.out 1).trans (show _ = some (.int .i64 0 : Value) from rfl); have c7_gr_2 := (blk_cell B7_gr.out 2).trans (show _ = some (.slice none 0 0 : Value) from rfl); have f7_gr := fun j => blk_frozen B7_gr.out j; have c7_gx_0 := (blk_cell B7_gx.out 0).trans (show _ = some (.int .i64 0 : Value) from rfl); have c7_gx_1 := (blk_cell B7_gx.out 1).trans (show _ = some (.int .i64 0 : Value) from rfl); have c7_gx_2 := (blk_cell B7_gx.out 2).trans (show _ = some (.slice none 0 0 : Value) from rfl); have f7_gx := fun j => blk_frozen B7_gx.out j; have q7 := L7.out.c1; have wr7 := L7.out.c2; have r7 := L7.out.fr 1; try clear hO_ hR_))
 go_loopg [] 0 (fun kq w' => Aside0 (IsPl w0 w' g L n1 e1 a1) ∧ Aside0 (One g w w') ∧ Aside0 (w'.heap[gr]? = some (.cells #[.int .i64 0, .int .i64 0, .slice none 0 0] 27 (0, 0))) ∧ Aside0 (w'.heap[gx]? = some (.cells #[.int .i64 kd, .int .i64 ar, .slice none 0 0] 27 (0, 0))))
 case atStart => exact ⟨⟨(IsPl.far (p := ⟨gx, 1, none⟩) (IsPl.far (p := ⟨gx, 0, none⟩) L7.out NG_gx.out GW_gx.out _) NG_gx.out GW_gx.out _)⟩, ⟨(One.put (p := ⟨gx, 1, none⟩) (One.put (p := ⟨gx, 0, none⟩) O7.out GT_gx.out _) GT_gx.out _)⟩, ⟨(blk_far (blk_far B7_gr.out (Ne.symm NE_gx_gr.out) _) (Ne.symm NE_gx_gr.out) _)⟩, ⟨(blk_put (cs' := #[.int .i64 kd, .int .i64 ar, .slice none 0 0]) (blk_put (cs' := #[.int .i64 kd, .int .i64 0, .slice none 0 0]) B7_gx.out 0 (.int .i64 kd) rfl) 1 (.int .i64 ar) rfl)⟩⟩
 case round =>
  try clear c7_gr_0 c7_gr_1 c7_gr_2 f7_gr c7_gx_0 c7_gx_1 c7_gx_2 f7_gx q7 wr7 r7 L7 O7 B7_gr B7_gx
  obtain ⟨yL, yO, yBr, yBx⟩ := hrel
  have yc0 := (blk_cell yBr.out 0).trans (show _ = some (.int .i64 0 : Value) from rfl)
  have yc1 := (blk_cell yBr.out 1).trans (show _ = some (.int .i64 0 : Value) from rfl)
  have yc2 := (blk_cell yBr.out 2).trans (show _ = some (.slice none 0 0 : Value) from rfl)
  have yd0 := (blk_cell yBx.out 0).trans (show _ = some (.int .i64 kd : Value) from rfl)
  have yd1 := (blk_cell yBx.out 1).trans (show _ = some (.int .i64 ar : Value) from rfl)
  have yd2 := (blk_cell yBx.out 2).trans (show _ = some (.slice none 0 0 : Value) from rfl)
  have yf := fun j => blk_frozen yBr.out j
  have yh := fun j => blk_frozen yBx.out j
  go_wp2
  have B21_gr := amp (blk_drew yBr.out)
  have B21_gx := amp (blk_drew yBx.out)
  have L21 := amp (IsPl.drew yL.out)
  have O21 := amp (One.drew yO.out)
  clear yL yO yBr yBx
  have z2_ := L21.out.c2
  refine start_ (n := 19) (S := fun w' => w'.cell? ⟨g, 2, none⟩ = some (.int .i64 e1)) (ds := []) #[false, false, false, false, false, false, false, false, false, false, false, false, false, false, false, false, false, false, false] (by kernel_rfl) rfl rfl (z2_) (fun hHeld => ?_)
  refine Mine.pS 0 (some 47) ?_; refine Mine.pS 1 (some 48) ?_; refine Mine.pS 2 (some 49) ?_; refine Mine.tS 3 (some 50) hHeld ?_; refine Mine.pS 4 (some 51) ?_; refine Mine.pS 5 (some 52) ?_; refine Mine.pO 6 (some 53) ?_; refine Mine.pO 7 (some 54) ?_; refine Mine.pO 8 (some 55) ?_; refine Mine.pO 9 (some 56) ?_; refine Mine.pO 10 (some 57) ?_; refine Mine.pO 11 (some 58) ?_; refine Mine.pO 12 (some 59) ?_; refine Mine.pO 13 (some 60) ?_; refine Mine.pO 14 (some 61) ?_; refine Mine.pO 15 (some 62) ?_; refine Mine.pO 16 (some 63) ?_; refine Mine.pO 17 (some 64) ?_; refine Mine.pS 18 (some 65) ?_
  refine done_ (by kernel_rfl) ?_
  clear z2_
  have c21_gr_0 := (blk_cell B21_gr.out 0).trans (show _ = some (.int .i64 0 : Value) from rfl)
  have c21_gr_1 := (blk_cell B21_gr.out 1).trans (show _ = some (.int .i64 0 : Value) from rfl)
  have c21_gr_2 := (blk_cell B21_gr.out 2).trans (show _ = some (.slice none 0 0 : Value) from rfl)
  have f21_gr := fun j => blk_frozen B21_gr.out j
  have c21_gx_0 := (blk_cell B21_gx.out 0).trans (show _ = some (.int .i64 kd : Value) from rfl)
  have c21_gx_1 := (blk_cell B21_gx.out 1).trans (show _ = some (.int .i64 ar : Value) from rfl)
  have c21_gx_2 := (blk_cell B21_gx.out 2).trans (show _ = some (.slice none 0 0 : Value) from rfl)
  have f21_gx := fun j => blk_frozen B21_gx.out j
  have q21 := L21.out.c1
  have wr21 := L21.out.c2
  have r21 := L21.out.fr 1
  go_wp2
  have B22_gr := amp (blk_drew B21_gr.out)
  have B22_gx := amp (blk_drew B21_gx.out)
  have L22 := amp (IsPl.drew L21.out)
  have O22 := amp (One.drew O21.out)
  clear L21 O21 B21_gr B21_gx c21_gr_0 c21_gr_1 c21_gr_2 f21_gr c21_gx_0 c21_gx_1 c21_gx_2 f21_gx q21 wr21 r21
  have z2_ := L22.out.c2
  have z3_ := L22.out.c3
  have c22_gr_0 := (blk_cell B22_gr.out 0).trans (show _ = some (.int .i64 0 : Value) from rfl)
  have c22_gr_1 := (blk_cell B22_gr.out 1).trans (show _ = some (.int .i64 0 : Value) from rfl)
  have c22_gr_2 := (blk_cell B22_gr.out 2).trans (show _ = some (.slice none 0 0 : Value) from rfl)
  have f22_gr := fun j => blk_frozen B22_gr.out j
  have c22_gx_0 := (blk_cell B22_gx.out 0).trans (show _ = some (.int .i64 kd : Value) from rfl)
  have c22_gx_1 := (blk_cell B22_gx.out 1).trans (show _ = some (.int .i64 ar : Value) from rfl)
  have c22_gx_2 := (blk_cell B22_gx.out 2).trans (show _ = some (.slice none 0 0 : Value) from rfl)
  have f22_gx := fun j => blk_frozen B22_gx.out j
  have q22 := L22.out.c1
  have wr22 := L22.out.c2
  have r22 := L22.out.fr 1
  refine start_ (n := 12) (S := fun w' => w'.cell? ⟨g, 2, none⟩ = some (.int .i64 e1) ∧ w'.cell? ⟨g, 3, none⟩ = some (.int .i64 a1)) (ds := []) #[false, false, false, false, false, false, false, false, false, false, false, false] (by kernel_rfl) rfl rfl ⟨z2_, z3_⟩ (fun hHeld => ?_)
  refine Mine.pS 0 (some 82) ?_; refine Mine.pS 1 (some 83) ?_; refine Mine.pS 2 (some 84) ?_; refine Mine.pS 3 (some 85) ?_; refine Mine.pS 5 (some 87) ?_; refine Mine.pS 6 (some 88) ?_; refine Mine.pS 7 (some 89) ?_; refine Mine.tS 4 (some 86) hHeld ?_; refine Mine.tS 8 (some 90) hHeld ?_
  refine one_ (i := 9) (N := none) #[true, true, true, true, true, true, true, true, true, true, false, false] rfl rfl (by kernel_rfl) (by decide) (fun K hK => ?_)
  refine skip_ (w1 := ?_) (by rfl) rfl ?_ ?_
  rotate_left
  ·go_simp
   rfl
  refine hK.out _ _ ⟨(cell_far3_ z2_ (Ne.symm NG_gr.out) _ _ _), (cell_far3_ z3_ (Ne.symm NG_gr.out) _ _ _)⟩ (fun hHeld => ?_)
  clear hK K
  refine Mine.pS 10 (some 3) ?_; refine Mine.pS 11 (some 4) ?_
  refine done_ (by kernel_rfl) ?_
  go_wp2
  (repeat (go_step3; (try go_wp2)))
  refine bodyPost_ret (results_ctt rfl _ _ gr 27 (#[.int .i64 0, .int .i64 0, .slice none 0 0]) (0, 0) _ rfl (blk_put (cs' := #[.int .i64 0, .int .i64 0, .slice none 0 0]) (blk_put (cs' := #[.int .i64 0, .int .i64 0, .slice none 0 0]) (blk_put (cs' := #[.int .i64 0, .int .i64 0, .slice none 0 0]) B22_gr.out 0 (.int .i64 0) rfl) 1 (.int .i64 0) rfl) 2 (.slice none 0 0) rfl) hu27 rfl (by kernel_rfl)) rfl ?_
  exact ⟨_, rfl, Kd.S_nil _ _ _ _ _, (below_set (g := gr) (j := 2) (v := .slice none 0 0) (below_set (g := gr) (j := 1) (v := .int .i64 0) (below_set (g := gr) (j := 0) (v := .int .i64 0) ((O22.out).toBelow HBw.out HBw.out.size GGI.out) GRI.out) GRI.out) GRI.out)⟩
set_option maxHeartbeats 60000000 in
set_option maxRecDepth 100000 in
theorem fairleadref10_Parse.ws (k : Nat) (a0 : ByteArray) (L : List S39) (p : Int) (HLX : Aside0 (fairleadref09_All.f k a0 = some (L, 0, p))) (z0 : Aside0 ((0 : Int) ≤ 0)) (z1 : Aside0 ((0 : Int) < (L.length : Int))) (A1 : Aside0 (true = decide ((rd_T39 L 0).f0 = 1 ∧ (rd_T39 L 0).f2.toList = (⟨#[100, 101, 102, 97, 117, 108, 116]⟩ : ByteArray).toList))) (kd ar n1 a1 n3 e3 a3 : Int) (HA : Aside0 (fairleadref10_Place_act.f k L 1 0 0 = some (kd, ar, n1, 0, a1))) (HS : Aside0 (fairleadref10_Place_sign.f L n1 0 a1 ⟨#[59]⟩ = some (n3, e3, a3))) (RS_ : List S44) (E_ P_ : Int) (HL : Aside0 (fairleadref10_Parse.l0 k L n3 e3 a3 [] = some (RS_, E_, P_))) (r1 r2 : Int) (r3 : List S44) (r4 r5 : Int) (hE : (E_ = 0 ∧ kd = r1 ∧ ar = r2 ∧ RS_ = r3 ∧ 0 = r4 ∧ -1 = r5) ∨ (E_ ≠ 0 ∧ 0 = r1 ∧ 0 = r2 ∧ [] = r3 ∧ E_ = r4 ∧ P_ = r5)) (wi : World) :
  Calls Try.prog 11 #[.string a0] wi (fun e w' => ∃ v0_ : Value, e = .returned (.tuple #[.agg #[.int .i64 r1, .int .i64 r2, v0_], .int .i64 r4, .int .i64 r5]) ∧ Kd.S k44 44 w' wi.heap.size (fun _ => True) v0_ r3 ∧ Below wi.heap.size wi w') := by
 have hu := Try.underlying39
 have hu27 := Try.underlying27
 have hu24 := Try.underlying24
 have hu44 := Try.underlying44
 have hu60 := Try.underlying60
 have ez : ((0 : Int) != 0) = false := rfl
 go_enter Try.func11, Try.ntmps11
 go_wp2_with (first | (go_at_call 21; (with_reducible refine (fairleadref09_All.calls k a0 L 0 p _ HLX.out).mono ?_); rintro e_ w0 ⟨v0, rfl, hR, hb⟩; obtain ⟨A0, c0, rfl⟩ := Kd.R_slice hR; have B4_gr := amp (blk_below (blk_new wi (Obj.cells #[.int .i64 0, .int .i64 0, .slice none 0 0] 27)) hb); have HB4 := amp ((below_alloc (Below.refl wi.heap.size wi) (Obj.cells #[.int .i64 0, .int .i64 0, .slice none 0 0] 27)).trans (hb.mono (below_alloc (Below.refl wi.heap.size wi) (Obj.cells #[.int .i64 0, .int .i64 0, .slice none 0 0] 27)).size)); have KC := amp (Kd.R_reads' hR).2.2; obtain ⟨gr, hgr⟩ : ∃ x, x = wi.heap.size := ⟨_, rfl⟩; rw [← hgr] at B4_gr; rw [← hgr]; have GRI := amp (Nat.le_of_eq hgr.symm); clear hR hb hgr; have c4_0 := (blk_cell B4_gr.out 0).trans (show _ = some (.int .i64 0 : Value) from rfl); have c4_1 := (blk_cell B4_gr.out 1).trans (show _ = some (.int .i64 0 : Value) from rfl); have c4_2 := (blk_cell B4_gr.out 2).trans (show _ = some (.slice none 0 0 : Value) from rfl); have f4 := fun j => blk_frozen B4_gr.out j) | ((with_reducible refine gate_dst (N := 23) rfl ?_); refine box_event rfl (N := 23) rfl (cs := #[.slice A0 L.length c0, .int .i64 0, .int .i64 0, .int .i64 0]) (t := 60) (by first | (go_simp; done) | (go_simp; rfl)) ?_; intro g hg w hbox hb; have L5 : Aside0 (IsPl w0 w g L 0 0 0) := ⟨⟨A0, c0, hbox, by rw [hg]; exact Nat.le_refl _, KC.out, hb⟩⟩; have O5 := amp (One.refl g w); have B5_gr := amp (blk_below B4_gr.out hb); have NG_gr := amp (show gr ≠ g from by rw [hg]; exact Nat.ne_of_lt (blk_lt B4_gr.out)); have HW0 := amp HB4.out.size; have HBw := amp (HB4.out.trans (hb.mono HB4.out.size)); have GGI := amp (show wi.heap.size ≤ g from by rw [hg]; exact HB4.out.size); clear hbox hb hg B4_gr HB4 KC c4_0 c4_1 c4_2 f4; have m1_gr := NG_gr.out; have m2_gr := Ne.symm NG_gr.out; have c5_0 := (blk_cell B5_gr.out 0).trans (show _ = some (.int .i64 0 : Value) from rfl); have c5_1 := (blk_cell B5_gr.out 1).trans (show _ = some (.int .i64 0 : Value) from rfl); have c5_2 := (blk_cell B5_gr.out 2).trans (show _ = some (.slice none 0 0 : Value) from rfl); have f5 := fun j => blk_frozen B5_gr.out j; have q5 := L5.out.c1; have wr5 := L5.out.c2; have r5_ := L5.out.fr 1; have NG_gx := amp (Nat.ne_of_gt (IsPl.lt L5.out)); have GT_gx := amp (One.size O5.out); have GW_gx := amp (Below.size (IsPl.bw L5.out)); have NE_gx_gr := amp (Nat.ne_of_gt (blk_lt B5_gr.out)); have m1_gx := NG_gx.out; have m2_gx := Ne.symm NG_gx.out; have m3_gx_gr := NE_gx_gr.out; have m4_gx_gr := Ne.symm NE_gx_gr.out; have qa_gx := (IsPl.alloc L5.out (Obj.cells #[.int .i64 0, .int .i64 0, .slice none 0 0] 27)).c1; have wra_gx := (IsPl.alloc L5.out (Obj.cells #[.int .i64 0, .int .i64 0, .slice none 0 0] 27)).c2; have ra_gx := (IsPl.alloc L5.out (Obj.cells #[.int .i64 0, .int .i64 0, .slice none 0 0] 27)).fr 1) | (go_at_call 22; (with_reducible refine (pl_is g L 0 0 0 1 ⟨#[100, 101, 102, 97, 117, 108, 116]⟩ true w0 _ (IsPl.alloc L5.out _) z0.out z1.out A1.out).mono ?_); rintro e_ w6 ⟨rfl, hR_, hO_⟩; have B6_gr := amp (One.blk hO_ (blk_alloc B5_gr.out _) NG_gr.out); have B6_gx := amp (One.blk hO_ (blk_new w _) NG_gx.out); have L6 := amp (hR_); have O6 := amp (One.trans (One.alloc O5.out _) hO_); clear hO_ hR_; generalize hgen_ : w.heap.size = gx at B6_gx NG_gx GW_gx NE_gx_gr m1_gx m2_gx m3_gx_gr m4_gx_gr ⊢; clear GT_gx; have GT_gx := amp (Nat.le_of_eq hgen_); clear hgen_; try clear L5 O5 B5_gr c5_0 c5_1 c5_2 f5 q5 wr5 r5_ qa_gx wra_gx ra_gx; have c6_gr_0 := (blk_cell B6_gr.out 0).trans (show _ = some (.int .i64 0 : Value) from rfl); have c6_gr_1 := (blk_cell B6_gr.out 1).trans (show _ = some (.int .i64 0 : Value) from rfl); have c6_gr_2 := (blk_cell B6_gr.out 2).trans (show _ = some (.slice none 0 0 : Value) from rfl); have f6_gr := fun j => blk_frozen B6_gr.out j; have c6_gx_0 := (blk_cell B6_gx.out 0).trans (show _ = some (.int .i64 0 : Value) from rfl); have c6_gx_1 := (blk_cell B6_gx.out 1).trans (show _ = some (.int .i64 0 : Value) from rfl); have c6_gx_2 := (blk_cell B6_gx.out 2).trans (show _ = some (.slice none 0 0 : Value) from rfl); have f6_gx := fun j => blk_frozen B6_gx.out j; have q6 := L6.out.c1; have wr6 := L6.out.c2; have r6 := L6.out.fr 1; try clear hO_ hR_) | (go_at_call 24; (with_reducible refine (pl_act k g L 1 0 0 kd ar n1 0 a1 w0 _ (IsPl.set L6.out 1) HA.out).mono ?_); rintro e_ w7 ⟨rfl, hR_, hO_⟩; have B7_gr := amp (One.blk hO_ (blk_far B6_gr.out NG_gr.out _) NG_gr.out); have B7_gx := amp (One.blk hO_ (blk_far B6_gx.out NG_gx.out _) NG_gx.out); have L7 := amp (hR_); have O7 := amp (One.trans (One.setCell O6.out 1 _) hO_); try clear L6 O6 B6_gr B6_gx c6_gr_0 c6_gr_1 c6_gr_2 f6_gr c6_gx_0 c6_gx_1 c6_gx_2 f6_gx q6 wr6 r6; have c7_gr_0 := (blk_cell B7_gr.out 0).trans (show _ = some (.int .i64 0 : Value) from rfl); have c7_gr_1 := (blk_cell B7_gr.out 1).trans (show _ = some (.int .i64 0 : Value) from rfl); have c7_gr_2 := (blk_cell B7_gr.out 2).trans (show _ = some (.slice none 0 0 : Value) from rfl); have f7_gr := fun j => blk_frozen B7_gr.out j; have c7_gx_0 := (blk_cell B7_gx.out 0).trans (show _ = some (.int .i64 0 : Value) from rfl); have c7_gx_1 := (blk_cell B7_gx.out 1).trans (show _ = some (.int .i64 0 : Value) from rfl); have c7_gx_2 := (blk_cell B7_gx.out 2).trans (show _ = some (.slice none 0 0 : Value) from rfl); have f7_gx := fun j => blk_frozen B7_gx.out j; have q7 := L7.out.c1; have wr7 := L7.out.c2; have r7 := L7.out.fr 1; try clear hO_ hR_) | (go_at_call 25; (with_reducible refine (pl_sign g L n1 0 a1 ⟨#[59]⟩ n3 e3 a3 w0 _ (IsPl.far (p := ⟨gx, 1, none⟩) (IsPl.far (p := ⟨gx, 0, none⟩) L7.out NG_gx.out GW_gx.out _) NG_gx.out GW_gx.out _) HS.out).mono ?_); rintro e_ w8 ⟨rfl, hR_, hO_⟩; have B8_gr := amp (One.blk hO_ (blk_far (blk_far B7_gr.out (Ne.symm NE_gx_gr.out) _) (Ne.symm NE_gx_gr.out) _) NG_gr.out); have B8_gx := amp (One.blk hO_ (blk_put (cs' := #[.int .i64 kd, .int .i64 ar, .slice none 0 0]) (blk_put (cs' := #[.int .i64 kd, .int .i64 0, .slice none 0 0]) B7_gx.out 0 (.int .i64 kd) rfl) 1 (.int .i64 ar) rfl) NG_gx.out); have L8 := amp (hR_); have O8 := amp (One.trans (One.put (p := ⟨gx, 1, none⟩) (One.put (p := ⟨gx, 0, none⟩) O7.out GT_gx.out _) GT_gx.out _) hO_); try clear L7 O7 B7_gr B7_gx c7_gr_0 c7_gr_1 c7_gr_2 f7_gr c7_gx_0 c7_gx_1 c7_gx_2 f7_gx q7 wr7 r7; have c8_gr_0 := (blk_cell B8_gr.out 0).trans (show _ = some (.int .i64 0 : Value) from rfl); have c8_gr_1 := (blk_cell B8_gr.out 1).trans (show _ = some (.int .i64 0 : Value) from rfl); have c8_gr_2 := (blk_cell B8_gr.out 2).trans (show _ = some (.slice none 0 0 : Value) from rfl); have f8_gr := fun j => blk_frozen B8_gr.out j; have c8_gx_0 := (blk_cell B8_gx.out 0).trans (show _ = some (.int .i64 kd : Value) from rfl); have c8_gx_1 := (blk_cell B8_gx.out 1).trans (show _ = some (.int .i64 ar : Value) from rfl); have c8_gx_2 := (blk_cell B8_gx.out 2).trans (show _ = some (.slice none 0 0 : Value) from rfl); have f8_gx := fun j => blk_frozen B8_gx.out j; have q8 := L8.out.c1; have wr8 := L8.out.c2; have r8 := L8.out.fr 1; try clear hO_ hR_))
 go_loopg [] k (fun kq w' => ∃ (n e a : Int) (rs : List S44) (v : Value), Aside0 (fairleadref10_Parse.l0 kq L n e a rs = some (RS_, E_, P_)) ∧ Aside0 (IsPl w0 w' g L n e a) ∧ Aside0 (One g w w') ∧ Aside0 (w'.heap[gr]? = some (.cells #[.int .i64 0, .int .i64 0, .slice none 0 0] 27 (0, 0))) ∧ Aside0 (w'.heap[gx]? = some (.cells #[.int .i64 kd, .int .i64 ar, v] 27 (0, 0))) ∧ Aside0 (Kd.S k44 44 w' w0.heap.size (fun k_ => k_ ≠ g ∧ k_ ≠ gr ∧ k_ ≠ gx ∧ w.heap.size ≤ k_) v rs))
 case atStart => exact ⟨n3, e3, a3, [], .slice none 0 0, HL, ⟨L8.out⟩, ⟨O8.out⟩, ⟨B8_gr.out⟩, ⟨B8_gx.out⟩, ⟨Kd.S_nil _ _ _ _ _⟩⟩
 case round =>
  try clear HL c8_gr_0 c8_gr_1 c8_gr_2 f8_gr c8_gx_0 c8_gx_1 c8_gx_2 f8_gx q8 wr8 r8 L8 O8 B8_gr B8_gx
  obtain ⟨n, e, a, rs, v, HA1, yL, yO, yBr, yBx, yN⟩ := hrel
  obtain ⟨Av, cv, rfl⟩ := Kd.S_slice yN.out
  cases gk with
  | zero => exact absurd HA1.out (by simp [fairleadref10_Parse.l0])
  | succ k1 =>
   have H := HA1.out
   clear HA1
   rw [fairleadref10_Parse.l0.eq_2] at H
   by_cases he : e = 0
   ·subst he
    rw [if_pos rfl] at H
    by_cases hm : 0 ≤ n ∧ n < (L.length : Int)
    ·rw [if_pos hm] at H
     have h0 := amp hm.1
     have h1 := amp hm.2
     clear hm
     by_cases h4 : (rd_T39 L n).f0 = 4
     ·rw [if_pos h4] at H
      have fa := bne_eq_false_iff_eq.mpr h4
      have H := Option.some.inj H
      simp only [Prod.mk.injEq] at H
      obtain ⟨e1_, e2_, e3_⟩ := H
      subst e1_ e2_ e3_
      clear h4
      obtain ⟨_, q1_, q2_, q3_, q4_, q5_⟩ := hE.resolve_right (fun h => h.1 rfl)
      subst q1_ q2_ q3_ q4_ q5_
      clear hE
      have yc0 := (blk_cell yBr.out 0).trans (show _ = some (.int .i64 0 : Value) from rfl)
      have yc1 := (blk_cell yBr.out 1).trans (show _ = some (.int .i64 0 : Value) from rfl)
      have yc2 := (blk_cell yBr.out 2).trans (show _ = some (.slice none 0 0 : Value) from rfl)
      have yd0 := (blk_cell yBx.out 0).trans (show _ = some (.int .i64 kd : Value) from rfl)
      have yd1 := (blk_cell yBx.out 1).trans (show _ = some (.int .i64 ar : Value) from rfl)
      have yd2 := (blk_cell yBx.out 2).trans (show _ = some (.slice Av rs.length cv : Value) from rfl)
      have yf := fun j => blk_frozen yBr.out j
      have yh := fun j => blk_frozen yBx.out j
      go_wp2
      have B21_gr := amp (blk_drew yBr.out)
      have B21_gx := amp (blk_drew yBx.out)
      have L21 := amp (IsPl.drew yL.out)
      have O21 := amp (One.drew yO.out)
      have R21_rs := amp (Kd.S_drew yN.out)
      clear yL yO yBr yBx yN
      obtain ⟨ad_, c_, z0_, hne_, x0_, x1_, x2_, x3_⟩ := L21.out.at h0.out h1.out
      have z1_ := L21.out.c1
      have z2_ := L21.out.c2
      have e0_ := eq_true h0.out
      have e1_ := eq_true h1.out
      clear hne_
      refine start_ (n := 19) (S := fun w' => w'.cell? ⟨g, 0, none⟩ = some (.slice (some ad_) L.length c_) ∧ w'.cell? ⟨g, 1, none⟩ = some (.int .i64 n) ∧ w'.cell? ⟨g, 2, none⟩ = some (.int .i64 0) ∧ w'.cell? (ad_.add ((n).toNat * 4)) = some (.int .i64 (rd_T39 L n).f0)) (ds := []) #[false, false, false, false, false, false, false, false, false, false, false, false, false, false, false, false, false, false, false] (by kernel_rfl) rfl rfl ⟨z0_, z1_, z2_, x0_⟩ (fun hHeld => ?_)
      refine Mine.pS 0 (some 47) ?_; refine Mine.pS 1 (some 48) ?_; refine Mine.pS 2 (some 49) ?_; refine Mine.tS 3 (some 50) hHeld ?_; refine Mine.pS 4 (some 51) ?_; refine Mine.pS 5 (some 52) ?_; refine Mine.pS 6 (some 53) ?_; refine Mine.pS 7 (some 54) ?_; refine Mine.pS 8 (some 55) ?_; refine Mine.pS 10 (some 57) ?_; refine Mine.pS 11 (some 58) ?_; refine Mine.pS 12 (some 59) ?_; refine Mine.tS 9 (some 56) hHeld ?_; refine Mine.tS 13 (some 60) hHeld ?_; refine Mine.pS 14 (some 61) ?_; refine Mine.pS 15 (some 62) ?_; refine Mine.tS 16 (some 63) hHeld ?_; refine Mine.pS 17 (some 64) ?_; refine Mine.pS 18 (some 65) ?_
      refine done_ (by kernel_rfl) ?_
      clear z0_ z1_ z2_ x0_ x1_ x2_ x3_ e0_ e1_
      have c21_gr_0 := (blk_cell B21_gr.out 0).trans (show _ = some (.int .i64 0 : Value) from rfl)
      have c21_gr_1 := (blk_cell B21_gr.out 1).trans (show _ = some (.int .i64 0 : Value) from rfl)
      have c21_gr_2 := (blk_cell B21_gr.out 2).trans (show _ = some (.slice none 0 0 : Value) from rfl)
      have f21_gr := fun j => blk_frozen B21_gr.out j
      have c21_gx_0 := (blk_cell B21_gx.out 0).trans (show _ = some (.int .i64 kd : Value) from rfl)
      have c21_gx_1 := (blk_cell B21_gx.out 1).trans (show _ = some (.int .i64 ar : Value) from rfl)
      have c21_gx_2 := (blk_cell B21_gx.out 2).trans (show _ = some (.slice Av rs.length cv : Value) from rfl)
      have f21_gx := fun j => blk_frozen B21_gx.out j
      have q21 := L21.out.c1
      have wr21 := L21.out.c2
      have r21 := L21.out.fr 1
      go_wp2
      (repeat (go_step3; (try go_wp2)))
      refine bodyPost_ret (results_ctt rfl _ _ gr 27 (#[.int .i64 kd, .int .i64 ar, .slice Av rs.length cv]) (0, 0) _ rfl (blk_put (cs' := #[.int .i64 kd, .int .i64 ar, .slice Av rs.length cv]) (blk_put (cs' := #[.int .i64 kd, .int .i64 ar, .slice none 0 0]) (blk_put (cs' := #[.int .i64 kd, .int .i64 0, .slice none 0 0]) B21_gr.out 0 (.int .i64 kd) rfl) 1 (.int .i64 ar) rfl) 2 (.slice Av rs.length cv) rfl) hu27 rfl (by kernel_rfl)) rfl ?_
      exact ⟨_, rfl, Kd.S_mono (Kd.S_lower (Kd.S_far (p := ⟨gr, 2, none⟩) (Kd.S_far (p := ⟨gr, 1, none⟩) (Kd.S_far (p := ⟨gr, 0, none⟩) R21_rs.out (fun _ o_ => o_.2.1) _) (fun _ o_ => o_.2.1) _) (fun _ o_ => o_.2.1) _) (HW0.out)) (fun _ _ => trivial), (below_set (g := gr) (j := 2) (v := .slice Av rs.length cv) (below_set (g := gr) (j := 1) (v := .int .i64 ar) (below_set (g := gr) (j := 0) (v := .int .i64 kd) ((O21.out).toBelow HBw.out HBw.out.size GGI.out) GRI.out) GRI.out) GRI.out)⟩
     ·rw [if_neg h4] at H
      have fa := bne_iff_ne.mpr h4
      clear h4
      by_cases hl : rs.length < 1000
      ·rw [if_pos hl] at H
       have hlen := amp hl
       clear hl
       obtain ⟨⟨x, n2, e2, a2⟩, HC, H⟩ := Option.bind_eq_some_iff.mp H
       have HC := amp HC
       have H' := amp H
       clear H
       have yc0 := (blk_cell yBr.out 0).trans (show _ = some (.int .i64 0 : Value) from rfl)
       have yc1 := (blk_cell yBr.out 1).trans (show _ = some (.int .i64 0 : Value) from rfl)
       have yc2 := (blk_cell yBr.out 2).trans (show _ = some (.slice none 0 0 : Value) from rfl)
       have yd0 := (blk_cell yBx.out 0).trans (show _ = some (.int .i64 kd : Value) from rfl)
       have yd1 := (blk_cell yBx.out 1).trans (show _ = some (.int .i64 ar : Value) from rfl)
       have yd2 := (blk_cell yBx.out 2).trans (show _ = some (.slice Av rs.length cv : Value) from rfl)
       have yf := fun j => blk_frozen yBr.out j
       have yh := fun j => blk_frozen yBx.out j
       go_wp2
       have B21_gr := amp (blk_drew yBr.out)
       have B21_gx := amp (blk_drew yBx.out)
       have L21 := amp (IsPl.drew yL.out)
       have O21 := amp (One.drew yO.out)
       have R21_rs := amp (Kd.S_drew yN.out)
       clear yL yO yBr yBx yN
       obtain ⟨ad_, c_, z0_, hne_, x0_, x1_, x2_, x3_⟩ := L21.out.at h0.out h1.out
       have z1_ := L21.out.c1
       have z2_ := L21.out.c2
       have e0_ := eq_true h0.out
       have e1_ := eq_true h1.out
       clear hne_
       refine start_ (n := 19) (S := fun w' => w'.cell? ⟨g, 0, none⟩ = some (.slice (some ad_) L.length c_) ∧ w'.cell? ⟨g, 1, none⟩ = some (.int .i64 n) ∧ w'.cell? ⟨g, 2, none⟩ = some (.int .i64 0) ∧ w'.cell? (ad_.add ((n).toNat * 4)) = some (.int .i64 (rd_T39 L n).f0)) (ds := []) #[false, false, false, false, false, false, false, false, false, false, false, false, false, false, false, false, false, false, false] (by kernel_rfl) rfl rfl ⟨z0_, z1_, z2_, x0_⟩ (fun hHeld => ?_)
       refine Mine.pS 0 (some 47) ?_; refine Mine.pS 1 (some 48) ?_; refine Mine.pS 2 (some 49) ?_; refine Mine.tS 3 (some 50) hHeld ?_; refine Mine.pS 4 (some 51) ?_; refine Mine.pS 5 (some 52) ?_; refine Mine.pS 6 (some 53) ?_; refine Mine.pS 7 (some 54) ?_; refine Mine.pS 8 (some 55) ?_; refine Mine.pS 10 (some 57) ?_; refine Mine.pS 11 (some 58) ?_; refine Mine.pS 12 (some 59) ?_; refine Mine.tS 9 (some 56) hHeld ?_; refine Mine.tS 13 (some 60) hHeld ?_; refine Mine.pS 14 (some 61) ?_; refine Mine.pS 15 (some 62) ?_; refine Mine.tS 16 (some 63) hHeld ?_; refine Mine.pS 17 (some 64) ?_; refine Mine.pS 18 (some 65) ?_
       refine done_ (by kernel_rfl) ?_
       clear z0_ z1_ z2_ x0_ x1_ x2_ x3_ e0_ e1_
       have c21_gr_0 := (blk_cell B21_gr.out 0).trans (show _ = some (.int .i64 0 : Value) from rfl)
       have c21_gr_1 := (blk_cell B21_gr.out 1).trans (show _ = some (.int .i64 0 : Value) from rfl)
       have c21_gr_2 := (blk_cell B21_gr.out 2).trans (show _ = some (.slice none 0 0 : Value) from rfl)
       have f21_gr := fun j => blk_frozen B21_gr.out j
       have c21_gx_0 := (blk_cell B21_gx.out 0).trans (show _ = some (.int .i64 kd : Value) from rfl)
       have c21_gx_1 := (blk_cell B21_gx.out 1).trans (show _ = some (.int .i64 ar : Value) from rfl)
       have c21_gx_2 := (blk_cell B21_gx.out 2).trans (show _ = some (.slice Av rs.length cv : Value) from rfl)
       have f21_gx := fun j => blk_frozen B21_gx.out j
       have q21 := L21.out.c1
       have wr21 := L21.out.c2
       have r21 := L21.out.fr 1
       go_wp2
       have B22_gr := amp (blk_drew B21_gr.out)
       have B22_gx := amp (blk_drew B21_gx.out)
       have L22 := amp (IsPl.drew L21.out)
       have O22 := amp (One.drew O21.out)
       have R22_rs := amp (Kd.S_drew R21_rs.out)
       clear L21 O21 B21_gr B21_gx R21_rs c21_gr_0 c21_gr_1 c21_gr_2 f21_gr c21_gx_0 c21_gx_1 c21_gx_2 f21_gx q21 wr21 r21
       refine start_ (n := 12) (S := fun w' => w'.cell? ⟨gx, 2, none⟩ = some (.slice Av rs.length cv)) (ds := [11]) #[false, false, false, false, false, false, false, false, false, false, false, false] (by kernel_rfl) rfl rfl (((blk_cell B22_gx.out 2).trans (show _ = some (.slice Av rs.length cv : Value) from rfl))) (fun hHeld => ?_)
       refine Mine.pS 0 (some 66) ?_; refine Mine.pS 2 (some 68) ?_; refine Mine.pS 3 (some 69) ?_; refine Mine.tS 1 (some 67) hHeld ?_; refine Mine.tS 4 (some 70) hHeld ?_; refine Mine.pS 5 (some 71) ?_; refine Mine.pS 6 (some 72) ?_
       refine one_ (i := 7) (N := some 73) #[true, true, true, true, true, true, true, true, false, false, false, false] rfl rfl (by kernel_rfl) (by decide) (fun K hK => ?_)
       refine goes_ Try.func26 (by kernel_rfl) rfl #[.pointer (some ⟨g, 0, none⟩), .int .i64 (wrap64 ((rs.length : Int) + 1))] (by rfl) rfl rfl (by simp only [List.map_toArray, List.map_cons, List.map_nil]; rfl) ?_
       refine (fairleadref10_Place_rule.calls k1 g L n 0 a (wrap64 ((rs.length : Int) + 1)) _ w0 _ L22.out HC.out).mono ?_
       rintro e_ w23 ⟨hO_, vn, vc, rfl, hN_, hC_, hR_⟩
       refine ⟨_, rfl, ?_⟩
       have hown := amp (fun k_ (e_ : (Value.slice Av rs.length cv).ownBlock = some k_) => own_lt (Kd.S_own R22_rs.out).choose_spec k_ e_)
       have N23 := amp (plRow (vs := .slice Av rs.length cv) hN_ O22.out (blk_lt B22_gr.out) (blk_lt B22_gx.out) hown.out)
       have C23 := amp (plRow (vs := .slice Av rs.length cv) hC_ O22.out (blk_lt B22_gr.out) (blk_lt B22_gx.out) hown.out)
       have R23 := amp (Kd.S_mono (ok' := fun k_ => (fun k_ => k_ ≠ g ∧ k_ ≠ gr ∧ k_ ≠ gx ∧ w.heap.size ≤ k_) k_ ∧ ¬ (((k_ ≠ g ∧ k_ ≠ gr ∧ k_ ≠ gx ∧ w.heap.size ≤ k_) ∧ some k_ ≠ (Value.slice Av rs.length cv).ownBlock) ∧ (wr.drew.drew).heap.size ≤ k_)) (Kd.S_step (Kd.S_bound R22_rs.out) (fun k_ ok_ hlt_ => One.block hO_ k_ hlt_ ok_.1.1)) (fun k_ hk_ => ⟨hk_.1, fun h_ => by have h1_ := hk_.2.2.1; have h2_ := h_.2; omega⟩))
       have L23 := amp hR_
       have B23_gr := amp (One.blk hO_ B22_gr.out NG_gr.out)
       have B23_gx := amp (One.blk hO_ B22_gx.out NG_gx.out)
       have O23 := amp (One.trans O22.out hO_)
       clear hO_ hN_ hC_ hR_ hown
       refine hK.out _ _ (((blk_cell B23_gx.out 2).trans (show _ = some (.slice Av rs.length cv : Value) from rfl))) (fun hHeld => ?_)
       clear hK K
       refine norm_ (a' := ?_) ?_ ?_
       rotate_left
       ·show Act.put _ (some 73) _ = _
        simp only [Act.put, List.setIfInBounds_toArray, List.set_cons_zero, List.set_cons_succ, i64_w, i32_w]
        rfl
       refine one_ (i := 8) (N := some 74) #[true, true, true, true, true, true, true, true, true, false, false, false] rfl rfl (by kernel_rfl) (by decide) (fun K hK => ?_)
       refine value_ (w1 := ?_) (v := ?_) (by rfl) rfl ?_ ?_
       rotate_left 2
       ·go_simp
        constructor
        ·rfl
        ·rfl
       refine hK.out _ _ (((blk_cell (blk_alloc B23_gx.out _) 2).trans (show _ = some (.slice Av rs.length cv : Value) from rfl))) (fun hHeld => ?_)
       clear hK K
       refine norm_ (a' := ?_) ?_ ?_
       rotate_left
       ·show Act.put _ (some 74) _ = _
        simp only [Act.put, List.setIfInBounds_toArray, List.set_cons_zero, List.set_cons_succ, i64_w, i32_w]
        rfl
       refine one_ (i := 9) (N := some 75) #[true, true, true, true, true, true, true, true, true, true, false, false] rfl rfl (by kernel_rfl) (by decide) (fun K hK => ?_)
       refine Kd.S_append_step k44 (w0 := w0) w0.heap.size (by rfl) (.tmp 67) (.tmp 74) 25 44 (.agg #[.int .i64 0, .int .i64 0, .slice none 0 0, .slice none 0 0]) 64 rfl Try.underlying25 info44 rfl (by decide) (by omega) (.slice Av rs.length cv) rs x [.int .i64 x.f0.f0, .int .i64 x.f0.f1, vn, vc] (fun k_ => k_ ≠ g ∧ k_ ≠ gr ∧ k_ ≠ gx ∧ w.heap.size ≤ k_) (fun k_ => ((k_ ≠ g ∧ k_ ≠ gr ∧ k_ ≠ gx ∧ w.heap.size ≤ k_) ∧ some k_ ≠ (Value.slice Av rs.length cv).ownBlock) ∧ (wr.drew.drew).heap.size ≤ k_) (by rfl) (by first | (go_simp; done) | (go_simp; rfl)) (k44_mkM _ _ _ x N23.out C23.out) (fun _ hk_ => hk_.1) ?aF R23.out (IsPl.bw L23.out) (Below.size (IsPl.bw L23.out)) (by have := hlen.out; omega) ?_
       (case aF => exact (fun k_ hk_ => ⟨Nat.ne_of_gt (Nat.lt_of_lt_of_le (IsPl.lt L23.out) hk_), Nat.ne_of_gt (Nat.lt_of_lt_of_le (blk_lt B23_gr.out) hk_), Nat.ne_of_gt (Nat.lt_of_lt_of_le (blk_lt B23_gx.out) hk_), Nat.le_trans (One.size O23.out) hk_⟩))
       intro v24 w24 ho_ hb_ hg_ hat_
       obtain ⟨A24_, c24_, rfl⟩ := Kd.S_slice ho_
       rw [show (rs ++ [x]).length = rs.length + 1 from by simp] at ho_
       have L24 := amp (IsPl.grown L23.out hg_ (fun e_ => ((Kd.S_R R23.out).1 g e_.symm).1.1 rfl) hb_)
       have O24 := amp (One.grown O23.out hg_ (fun k_ e_ => ((Kd.S_R R23.out).1 k_ e_).1.2.2.2))
       have B24_gr := amp (blk_grown B23_gr.out hg_ (fun e_ => ((Kd.S_R R23.out).1 gr e_.symm).1.2.1 rfl))
       have B24_gx := amp (blk_grown B23_gx.out hg_ (fun e_ => ((Kd.S_R R23.out).1 gx e_.symm).1.2.2.1 rfl))
       have R24 := amp ho_
       clear ho_ hb_ hg_ hat_
       have k24_x := fun j => blk_frozen B24_gx.out j
       have c24_x0 := (blk_cell B24_gx.out 0).trans (show _ = some (.int .i64 kd : Value) from rfl)
       have c24_x1 := (blk_cell B24_gx.out 1).trans (show _ = some (.int .i64 ar : Value) from rfl)
       have c24_x2 := (blk_cell B24_gx.out 2).trans (show _ = some (.slice Av rs.length cv : Value) from rfl)
       refine hK.out _ _ (((blk_cell B24_gx.out 2).trans (show _ = some (.slice Av rs.length cv : Value) from rfl))) (fun hHeld => ?_)
       clear hK K
       refine norm_ (a' := ?_) ?_ ?_
       rotate_left
       ·show Act.put _ (some 75) _ = _
        simp only [Act.put, List.setIfInBounds_toArray, List.set_cons_zero, List.set_cons_succ, i64_w, i32_w]
        rfl
       refine Mine.pS 10 (some 76) ?_
       refine last_ (i := 11) (N := none) #[true, true, true, true, true, true, true, true, true, true, true, true] rfl rfl (by kernel_rfl) (by decide) (fun K hK => ?_)
       refine skip_ (w1 := ?_) (by rfl) rfl ?_ ?_
       rotate_left
       ·go_simp
        rfl
       refine hK.out _ _ ?_
       clear hK K
       refine done_ (by kernel_rfl) ?_
       go_wp2
       go_roundg k1
       case measure => omega
       case rel => exact ⟨n2, e2, a2, rs ++ [x], (.slice A24_ (rs.length + 1) c24_), H', ⟨(IsPl.far (p := ⟨gx, 2, none⟩) L24.out NG_gx.out GW_gx.out _)⟩, ⟨(One.put (p := ⟨gx, 2, none⟩) O24.out GT_gx.out _)⟩, ⟨(blk_far B24_gr.out (Ne.symm NE_gx_gr.out) _)⟩, ⟨(blk_put (cs' := #[.int .i64 kd, .int .i64 ar, (.slice A24_ (rs.length + 1) c24_)]) B24_gx.out 2 ((.slice A24_ (rs.length + 1) c24_)) rfl)⟩, ⟨(Kd.S_far (p := ⟨gx, 2, none⟩) R24.out (fun _ ok_ => ok_.2.2.1) _)⟩⟩
      ·rw [if_neg hl] at H; cases H
    ·rw [if_neg hm] at H; cases H
   ·rw [if_neg he] at H
    have H := Option.some.inj H
    simp only [Prod.mk.injEq] at H
    obtain ⟨e1_, e2_, e3_⟩ := H
    subst e1_ e2_ e3_
    obtain ⟨_, q1_, q2_, q3_, q4_, q5_⟩ := hE.resolve_left (fun h => he h.1)
    subst q1_ q2_ q3_ q4_ q5_
    have y1 := beq_eq_false_iff_ne.2 he
    have y2 := bne_iff_ne.2 he
    clear hE he
    have yc0 := (blk_cell yBr.out 0).trans (show _ = some (.int .i64 0 : Value) from rfl)
    have yc1 := (blk_cell yBr.out 1).trans (show _ = some (.int .i64 0 : Value) from rfl)
    have yc2 := (blk_cell yBr.out 2).trans (show _ = some (.slice none 0 0 : Value) from rfl)
    have yd0 := (blk_cell yBx.out 0).trans (show _ = some (.int .i64 kd : Value) from rfl)
    have yd1 := (blk_cell yBx.out 1).trans (show _ = some (.int .i64 ar : Value) from rfl)
    have yd2 := (blk_cell yBx.out 2).trans (show _ = some (.slice Av rs.length cv : Value) from rfl)
    have yf := fun j => blk_frozen yBr.out j
    have yh := fun j => blk_frozen yBx.out j
    go_wp2
    have B21_gr := amp (blk_drew yBr.out)
    have B21_gx := amp (blk_drew yBx.out)
    have L21 := amp (IsPl.drew yL.out)
    have O21 := amp (One.drew yO.out)
    have R21_rs := amp (Kd.S_drew yN.out)
    clear yL yO yBr yBx yN
    have z2_ := L21.out.c2
    refine start_ (n := 19) (S := fun w' => w'.cell? ⟨g, 2, none⟩ = some (.int .i64 e)) (ds := []) #[false, false, false, false, false, false, false, false, false, false, false, false, false, false, false, false, false, false, false] (by kernel_rfl) rfl rfl (z2_) (fun hHeld => ?_)
    refine Mine.pS 0 (some 47) ?_; refine Mine.pS 1 (some 48) ?_; refine Mine.pS 2 (some 49) ?_; refine Mine.tS 3 (some 50) hHeld ?_; refine Mine.pS 4 (some 51) ?_; refine Mine.pS 5 (some 52) ?_; refine Mine.pO 6 (some 53) ?_; refine Mine.pO 7 (some 54) ?_; refine Mine.pO 8 (some 55) ?_; refine Mine.pO 9 (some 56) ?_; refine Mine.pO 10 (some 57) ?_; refine Mine.pO 11 (some 58) ?_; refine Mine.pO 12 (some 59) ?_; refine Mine.pO 13 (some 60) ?_; refine Mine.pO 14 (some 61) ?_; refine Mine.pO 15 (some 62) ?_; refine Mine.pO 16 (some 63) ?_; refine Mine.pO 17 (some 64) ?_; refine Mine.pS 18 (some 65) ?_
    refine done_ (by kernel_rfl) ?_
    clear z2_
    have c21_gr_0 := (blk_cell B21_gr.out 0).trans (show _ = some (.int .i64 0 : Value) from rfl)
    have c21_gr_1 := (blk_cell B21_gr.out 1).trans (show _ = some (.int .i64 0 : Value) from rfl)
    have c21_gr_2 := (blk_cell B21_gr.out 2).trans (show _ = some (.slice none 0 0 : Value) from rfl)
    have f21_gr := fun j => blk_frozen B21_gr.out j
    have c21_gx_0 := (blk_cell B21_gx.out 0).trans (show _ = some (.int .i64 kd : Value) from rfl)
    have c21_gx_1 := (blk_cell B21_gx.out 1).trans (show _ = some (.int .i64 ar : Value) from rfl)
    have c21_gx_2 := (blk_cell B21_gx.out 2).trans (show _ = some (.slice Av rs.length cv : Value) from rfl)
    have f21_gx := fun j => blk_frozen B21_gx.out j
    have q21 := L21.out.c1
    have wr21 := L21.out.c2
    have r21 := L21.out.fr 1
    go_wp2
    have B22_gr := amp (blk_drew B21_gr.out)
    have B22_gx := amp (blk_drew B21_gx.out)
    have L22 := amp (IsPl.drew L21.out)
    have O22 := amp (One.drew O21.out)
    have R22_rs := amp (Kd.S_drew R21_rs.out)
    clear L21 O21 B21_gr B21_gx R21_rs c21_gr_0 c21_gr_1 c21_gr_2 f21_gr c21_gx_0 c21_gx_1 c21_gx_2 f21_gx q21 wr21 r21
    have z2_ := L22.out.c2
    have z3_ := L22.out.c3
    have c22_gr_0 := (blk_cell B22_gr.out 0).trans (show _ = some (.int .i64 0 : Value) from rfl)
    have c22_gr_1 := (blk_cell B22_gr.out 1).trans (show _ = some (.int .i64 0 : Value) from rfl)
    have c22_gr_2 := (blk_cell B22_gr.out 2).trans (show _ = some (.slice none 0 0 : Value) from rfl)
    have f22_gr := fun j => blk_frozen B22_gr.out j
    have c22_gx_0 := (blk_cell B22_gx.out 0).trans (show _ = some (.int .i64 kd : Value) from rfl)
    have c22_gx_1 := (blk_cell B22_gx.out 1).trans (show _ = some (.int .i64 ar : Value) from rfl)
    have c22_gx_2 := (blk_cell B22_gx.out 2).trans (show _ = some (.slice Av rs.length cv : Value) from rfl)
    have f22_gx := fun j => blk_frozen B22_gx.out j
    have q22 := L22.out.c1
    have wr22 := L22.out.c2
    have r22 := L22.out.fr 1
    refine start_ (n := 12) (S := fun w' => w'.cell? ⟨g, 2, none⟩ = some (.int .i64 e) ∧ w'.cell? ⟨g, 3, none⟩ = some (.int .i64 a)) (ds := []) #[false, false, false, false, false, false, false, false, false, false, false, false] (by kernel_rfl) rfl rfl ⟨z2_, z3_⟩ (fun hHeld => ?_)
    refine Mine.pS 0 (some 82) ?_; refine Mine.pS 1 (some 83) ?_; refine Mine.pS 2 (some 84) ?_; refine Mine.pS 3 (some 85) ?_; refine Mine.pS 5 (some 87) ?_; refine Mine.pS 6 (some 88) ?_; refine Mine.pS 7 (some 89) ?_; refine Mine.tS 4 (some 86) hHeld ?_; refine Mine.tS 8 (some 90) hHeld ?_
    refine one_ (i := 9) (N := none) #[true, true, true, true, true, true, true, true, true, true, false, false] rfl rfl (by kernel_rfl) (by decide) (fun K hK => ?_)
    refine skip_ (w1 := ?_) (by rfl) rfl ?_ ?_
    rotate_left
    ·go_simp
     rfl
    refine hK.out _ _ ⟨(cell_far3_ z2_ (Ne.symm NG_gr.out) _ _ _), (cell_far3_ z3_ (Ne.symm NG_gr.out) _ _ _)⟩ (fun hHeld => ?_)
    clear hK K
    refine Mine.pS 10 (some 3) ?_; refine Mine.pS 11 (some 4) ?_
    refine done_ (by kernel_rfl) ?_
    go_wp2
    (repeat (go_step3; (try go_wp2)))
    refine bodyPost_ret (results_ctt rfl _ _ gr 27 (#[.int .i64 0, .int .i64 0, .slice none 0 0]) (0, 0) _ rfl (blk_put (cs' := #[.int .i64 0, .int .i64 0, .slice none 0 0]) (blk_put (cs' := #[.int .i64 0, .int .i64 0, .slice none 0 0]) (blk_put (cs' := #[.int .i64 0, .int .i64 0, .slice none 0 0]) B22_gr.out 0 (.int .i64 0) rfl) 1 (.int .i64 0) rfl) 2 (.slice none 0 0) rfl) hu27 rfl (by kernel_rfl)) rfl ?_
    exact ⟨_, rfl, Kd.S_nil _ _ _ _ _, (below_set (g := gr) (j := 2) (v := .slice none 0 0) (below_set (g := gr) (j := 1) (v := .int .i64 0) (below_set (g := gr) (j := 0) (v := .int .i64 0) ((O22.out).toBelow HBw.out HBw.out.size GGI.out) GRI.out) GRI.out) GRI.out)⟩
theorem fairleadref10_Parse.calls (k : Nat) (a0 : ByteArray) (r1 r2 : Int) (r3 : List S44) (r4 r5 : Int) (wi : World) (h : fairleadref10_Parse.f k a0 = some (r1, r2, r3, r4, r5)) :
  Calls Try.prog 11 #[.string a0] wi (fun e w' => ∃ v0_ : Value, e = .returned (.tuple #[.agg #[.int .i64 r1, .int .i64 r2, v0_], .int .i64 r4, .int .i64 r5]) ∧ Kd.S k44 44 w' wi.heap.size (fun _ => True) v0_ r3 ∧ Below wi.heap.size wi w') := by
 unfold fairleadref10_Parse.f at h
 obtain ⟨⟨L, er, p⟩, HX, h⟩ := Option.bind_eq_some_iff.mp h
 by_cases he : er = 0
 ·subst he
  rw [if_pos rfl] at h
  unfold fairleadref10_Parse.g at h
  by_cases hz : 0 ≤ (0 : Int) ∧ (0 : Int) < (L.length : Int)
  ·rw [if_pos hz] at h
   by_cases hd : ((rd_T39 L 0).f0 = 1 ∧ (rd_T39 L 0).f2.toList = (⟨#[100, 101, 102, 97, 117, 108, 116]⟩ : ByteArray).toList)
   ·rw [if_pos hd] at h
    obtain ⟨⟨kd, ar, n1, e1, a1⟩, HA, h⟩ := Option.bind_eq_some_iff.mp h
    by_cases he1 : e1 = 0
    ·subst he1
     rw [if_pos rfl] at h
     obtain ⟨⟨n3, e3, a3⟩, HS, h⟩ := Option.bind_eq_some_iff.mp h
     obtain ⟨⟨RS_, E_, P_⟩, HL, h⟩ := Option.bind_eq_some_iff.mp h
     refine fairleadref10_Parse.ws k a0 L p (amp HX) (amp hz.1) (amp hz.2) (amp (decide_eq_true hd).symm) kd ar n1 a1 n3 e3 a3 (amp HA) (amp HS) RS_ E_ P_ (amp HL) r1 r2 r3 r4 r5 ?_ wi
     by_cases hE : E_ = 0
     ·rw [if_pos hE] at h
      cases h
      exact .inl ⟨hE, rfl, rfl, rfl, rfl, rfl⟩
     ·rw [if_neg hE] at h
      cases h
      exact .inr ⟨hE, rfl, rfl, rfl, rfl, rfl⟩
    ·rw [if_neg he1] at h
     cases h
     exact fairleadref10_Parse.wa k a0 L p (amp HX) (amp hz.1) (amp hz.2) (amp (decide_eq_true hd).symm) kd ar n1 e1 a1 he1 (amp HA) wi
   ·rw [if_neg hd] at h
    cases h
    exact fairleadref10_Parse.wf k a0 L p (amp HX) (amp hz.1) (amp hz.2) (amp (decide_eq_false hd).symm) (amp (by unfold fairleadref10_Place_fail.f; rw [if_pos rfl, if_pos hz])) wi
  ·rw [if_neg hz] at h; cases h
 ·rw [if_neg he] at h
  cases h
  exact fairleadref10_Parse.we k a0 L er p he (amp HX) wi
end Go.Proofs.Ytfahchgglapglaa.M
