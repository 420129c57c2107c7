-- Laid by a program (wip/tools/myprint.py) out of the loaded program's own print: for each Go function a Lean function and the proof of its contract.
import Derived.Test.YteojfjlklikaoaaP5Mx0
import Derived.Test.YteojfjlklikaoaaP5Mx10
import Derived.Test.YteojfjlklikaoaaP5Mx11
namespace Go.Proofs.Yteojfjlklikaoaa.M
open Go.RowKit Go.Proofs.YteojfjlklikaoaaW.PrintWords Go.Proofs.YteojfjlklikaoaaW.PrintLast Go.Proofs.YteojfjlklikaoaaW.PrintMore
attribute [local go_sem] max2_int min2_int max_two min_two max_three min_three max_four min_four   -- for this text's walks alone
set_option linter.unusedVariables false
set_option linter.unusedSimpArgs false
-- HAND rounds=True making=True
/-- A state's numbers, but for its place and its steps. -/
structure StS where
  a : Int
  x : Int
  o : Bool
  r : Int
  C : Int → Int
/-- The cells of a state: where it is, its steps, the machine. -/
def stA (t n : Int) (s : StS) : Array Value := #[.int .i64 t, .int .i64 n, .int .u32 s.a, .int .u32 s.x, .int .u32 (s.C 0), .int .u32 (s.C 1), .int .u32 (s.C 2), .int .u32 (s.C 3), .int .u32 (s.C 4), .int .u32 (s.C 5), .int .u32 (s.C 6), .int .u32 (s.C 7), .int .u32 (s.C 8), .int .u32 (s.C 9), .int .u32 (s.C 10), .int .u32 (s.C 11), .int .u32 (s.C 12), .int .u32 (s.C 13), .int .u32 (s.C 14), .int .u32 (s.C 15), .bool s.o, .int .u32 s.r]
theorem step_setRow {B g : Nat} {w0 w : World} (hb : Below B w0 w) (hBg : B ≤ g) (cs : Array Value) : Below B w0 (w.setRow g cs) := hb.trans ⟨rfl, rfl, rfl, by simp [World.setRow], fun k hk => setRow_other w g k cs (by omega)⟩
theorem stA_one (t n : Int) (s : StS) : (stA t n s).all (·.oneCell') = true := by simp [stA, Value.oneCell']
/-- The blocks of a step. -/
structure StB (w0 w : World) (gd gs gr gx : Nat) (D S X : Array Value) : Prop where
  bd : w.heap[gd]? = some (.cells D 27 (0, 0))
  bs : w.heap[gs]? = some (.cells S 73 (0, 0))
  br : w.heap[gr]? = some (.cells #[.int .i64 0, .int .i64 0, .int .u32 0, .int .u32 0, .int .u32 0, .int .u32 0, .int .u32 0, .int .u32 0, .int .u32 0, .int .u32 0, .int .u32 0, .int .u32 0, .int .u32 0, .int .u32 0, .int .u32 0, .int .u32 0, .int .u32 0, .int .u32 0, .int .u32 0, .int .u32 0, .bool false, .int .u32 0] 73 (0, 0))
  bx : w.heap[gx]? = some (.cells X 53 (0, 0))
  below : Below w0.heap.size w0 w
  gs0 : w0.heap.size ≤ gs
  gr0 : w0.heap.size ≤ gr
  sd : gs ≠ gd
  sr : gs ≠ gr
  sx : gs ≠ gx
theorem StB.put {w0 w : World} {gd gs gr gx : Nat} {D S X : Array Value} (h : StB w0 w gd gs gr gx D S X) (j : Nat) (v : Value) {S' : Array Value} (e : S.setIfInBounds j v = S') : StB w0 (w.setCell ⟨gs, j, none⟩ v) gd gs gr gx D S' X :=
  ⟨blk_far h.bd h.sd.symm v, blk_put h.bs j v e, blk_far h.br h.sr.symm v, blk_far h.bx h.sx.symm v, below_set h.below h.gs0, h.gs0, h.gr0, h.sd, h.sr, h.sx⟩
theorem StB.call {w0 w w' : World} {gd gs gr gx : Nat} {D S X : Array Value} (h : StB w0 w gd gs gr gx D S X) (hb : Below w.heap.size w w') : StB w0 w' gd gs gr gx D S X :=
  ⟨blk_below h.bd hb, blk_below h.bs hb, blk_below h.br hb, blk_below h.bx hb, below_step h.below hb, h.gs0, h.gr0, h.sd, h.sr, h.sx⟩
set_option maxHeartbeats 8000000 in
set_option maxRecDepth 100000 in
theorem step_made {w w1 w2 w3 w4 : World} {gd gs gr gx : Nat} {d0 d1 d2 d3 d4 d5 d6 d7 d8 t n : Int} {s : StS} (b1 : w1.heap[gd]? = some (.cells #[.int .u32 d0, .int .u32 d1, .int .u64 d2, .int .u64 d3, .int .u64 d4, .int .u64 d5, .int .u64 d6, .int .u64 d7, .int .u64 d8] 27 (0, 0))) (b2 : w2.heap[gs]? = some (.cells #[.int .i64 (t), .int .i64 (n), .int .u32 s.a, .int .u32 s.x, .int .u32 (s.C 0), .int .u32 (s.C 1), .int .u32 (s.C 2), .int .u32 (s.C 3), .int .u32 (s.C 4), .int .u32 (s.C 5), .int .u32 (s.C 6), .int .u32 (s.C 7), .int .u32 (s.C 8), .int .u32 (s.C 9), .int .u32 (s.C 10), .int .u32 (s.C 11), .int .u32 (s.C 12), .int .u32 (s.C 13), .int .u32 (s.C 14), .int .u32 (s.C 15), .bool s.o, .int .u32 s.r] 73 (0, 0))) (b3 : w3.heap[gr]? = some (.cells #[.int .i64 0, .int .i64 0, .int .u32 0, .int .u32 0, .int .u32 0, .int .u32 0, .int .u32 0, .int .u32 0, .int .u32 0, .int .u32 0, .int .u32 0, .int .u32 0, .int .u32 0, .int .u32 0, .int .u32 0, .int .u32 0, .int .u32 0, .int .u32 0, .int .u32 0, .int .u32 0, .bool false, .int .u32 0] 73 (0, 0))) (b4 : w4.heap[gx]? = some (.cells #[.int .u16 0, .int .u8 0, .int .u8 0, .int .u32 0] 53 (0, 0)))
  (h1 : Below w.heap.size w w1) (h2 : Below w1.heap.size w1 w2) (h3 : Below w2.heap.size w2 w3) (h4 : Below w3.heap.size w3 w4) (gd0 : gd = w.heap.size) (gs0 : gs = w1.heap.size) (gr0 : gr = w2.heap.size) (gx0 : gx = w3.heap.size) (c jt jf K : Int) :
    StB w ((((((w4.setCell ⟨gx, 0, none⟩ (.int .u16 c)).setCell ⟨gx, 1, none⟩ (.int .u8 jt)).setCell ⟨gx, 2, none⟩ (.int .u8 jf)).setCell ⟨gx, 3, none⟩ (.int .u32 K)).setCell ⟨gs, 0, none⟩ (.int .i64 (wrap64 (t + 1)))).setCell ⟨gs, 1, none⟩ (.int .i64 (wrap64 (n + 1)))) gd gs gr gx #[.int .u32 d0, .int .u32 d1, .int .u64 d2, .int .u64 d3, .int .u64 d4, .int .u64 d5, .int .u64 d6, .int .u64 d7, .int .u64 d8] (stA (wrap64 (t + 1)) (wrap64 (n + 1)) s) #[.int .u16 c, .int .u8 jt, .int .u8 jf, .int .u32 K] := by
  have l1 := blk_lt b1
  have l2 := blk_lt b2
  have l3 := blk_lt b3
  have q1 := h1.size
  have q2 := h2.size
  have q3 := h3.size
  have ds : gd ≠ gs := by omega
  have dr : gd ≠ gr := by omega
  have dx : gd ≠ gx := by omega
  have sr : gs ≠ gr := by omega
  have sx : gs ≠ gx := by omega
  have rx : gr ≠ gx := by omega
  have H1 := blk_below (blk_below (blk_below b1 h2) h3) h4
  have H2 := blk_below (blk_below b2 h3) h4
  have H3 := blk_below b3 h4
  refine ⟨blk_far (blk_far (blk_far (blk_far (blk_far (blk_far H1 dx _) dx _) dx _) dx _) ds _) ds _, blk_put (blk_put (blk_far (blk_far (blk_far (blk_far H2 sx _) sx _) sx _) sx _) 0 _ rfl) 1 _ rfl, blk_far (blk_far (blk_far (blk_far (blk_far (blk_far H3 rx _) rx _) rx _) rx _) sr.symm _) sr.symm _, blk_far (blk_far (blk_put (blk_put (blk_put (blk_put b4 0 _ rfl) 1 _ rfl) 2 _ rfl) 3 _ rfl) sx.symm _) sx.symm _, ?_, by omega, by omega, ds.symm, sr, sx⟩
  exact below_set (below_set (below_set (below_set (below_set (below_set (below_step (below_step (below_step h1 h2) h3) h4) (by omega)) (by omega)) (by omega)) (by omega)) (by omega)) (by omega)
theorem step_rd (C : Int → Int) (K : Int) (h0 : 0 ≤ K) (h1 : K < 16) : rd [C 0, C 1, C 2, C 3, C 4, C 5, C 6, C 7, C 8, C 9, C 10, C 11, C 12, C 13, C 14, C 15] K = C K := by
  rcases (by omega : K = 0 ∨ K = 1 ∨ K = 2 ∨ K = 3 ∨ K = 4 ∨ K = 5 ∨ K = 6 ∨ K = 7 ∨ K = 8 ∨ K = 9 ∨ K = 10 ∨ K = 11 ∨ K = 12 ∨ K = 13 ∨ K = 14 ∨ K = 15) with rfl | rfl | rfl | rfl | rfl | rfl | rfl | rfl | rfl | rfl | rfl | rfl | rfl | rfl | rfl | rfl <;> rfl
theorem step_set (T N : Int) (s : StS) (K v : Int) (h0 : 0 ≤ K) (h1 : K < 16) : (stA T N s).setIfInBounds (4 + K.toNat) (.int .u32 v) = stA T N { s with C := fun j => if j = K then v else s.C j } := by
  rcases (by omega : K = 0 ∨ K = 1 ∨ K = 2 ∨ K = 3 ∨ K = 4 ∨ K = 5 ∨ K = 6 ∨ K = 7 ∨ K = 8 ∨ K = 9 ∨ K = 10 ∨ K = 11 ∨ K = 12 ∨ K = 13 ∨ K = 14 ∨ K = 15) with rfl | rfl | rfl | rfl | rfl | rfl | rfl | rfl | rfl | rfl | rfl | rfl | rfl | rfl | rfl | rfl <;> rfl
theorem step_gen {P : Program} {co : Code} {Q : Exit → Act → World → Prop} {a : Act} {W : World} {R : World → Prop} (h : R W) (k : ∀ wc, R wc → co.wp P Q a wc) : co.wp P Q a W := k W h
set_option maxHeartbeats 8000000 in
set_option maxRecDepth 100000 in
theorem fairleadref06_Step.c0 (k : Nat) (A0 : Option Addr) (c0 : Nat) (l0 : List S53) (d0 d1 d2 d3 d4 d5 d6 d7 d8 t n jt jf K : Int) (s : StS) (w : World) (hr0 : Kd.C k53 w A0 l0.length l0) (hc0 : l0.length ≤ c0) (ht : 0 ≤ t) (ht1 : t < l0.length) (hx : rd_T53 l0 t = ⟨0, jt, jf, K⟩) :
  Calls Try.prog 35 #[.slice A0 l0.length c0, .agg #[.int .u32 d0, .int .u32 d1, .int .u64 d2, .int .u64 d3, .int .u64 d4, .int .u64 d5, .int .u64 d6, .int .u64 d7, .int .u64 d8], .agg (stA t n s)] w fun e w' => e = .returned (.agg (stA (wrap64 (t + 1)) (wrap64 (n + 1)) { s with a := K })) ∧ Below w.heap.size w w' := by
  have hu27_ := Try.underlying27
  have hu56_ := Try.underlying73
  have hu37_ := Try.underlying53
  have HR0 := Aside0.mk hr0
  have HC0 := Aside0.mk hc0
  clear hr0 hc0
  go_enter Try.func35, Try.ntmps35
  go_upto_region 6 with (first | ((with_reducible refine gate_dst (N := 4) rfl ?_); refine box_event ?hg (N := 4) ?hd (cs := #[.int .u32 d0, .int .u32 d1, .int .u64 d2, .int .u64 d3, .int .u64 d4, .int .u64 d5, .int .u64 d6, .int .u64 d7, .int .u64 d8]) (t := 27) ?hr ?_; (case hd => rfl); (case hg => rfl); (case hr => first | (go_simp; done) | (go_simp; rfl)); intro gd hg w1 hbox hb; have GD := Aside0.mk hg; have B1 := Aside0.mk hbox; have W1 := Aside0.mk hb; clear hg hbox hb) | ((with_reducible refine gate_dst (N := 5) rfl ?_); refine box_event ?hg (N := 5) ?hd (cs := #[.int .i64 (t), .int .i64 (n), .int .u32 s.a, .int .u32 s.x, .int .u32 (s.C 0), .int .u32 (s.C 1), .int .u32 (s.C 2), .int .u32 (s.C 3), .int .u32 (s.C 4), .int .u32 (s.C 5), .int .u32 (s.C 6), .int .u32 (s.C 7), .int .u32 (s.C 8), .int .u32 (s.C 9), .int .u32 (s.C 10), .int .u32 (s.C 11), .int .u32 (s.C 12), .int .u32 (s.C 13), .int .u32 (s.C 14), .int .u32 (s.C 15), .bool s.o, .int .u32 s.r]) (t := 73) ?hr ?_; (case hd => rfl); (case hg => rfl); (case hr => first | (go_simp; done) | (go_simp; rfl)); intro gs hg w2 hbox hb; have GS := Aside0.mk hg; have B2 := Aside0.mk hbox; have W2 := Aside0.mk hb; clear hg hbox hb) | ((with_reducible refine gate_dst (N := 6) rfl ?_); refine box_event ?hg (N := 6) ?hd (cs := #[.int .i64 0, .int .i64 0, .int .u32 0, .int .u32 0, .int .u32 0, .int .u32 0, .int .u32 0, .int .u32 0, .int .u32 0, .int .u32 0, .int .u32 0, .int .u32 0, .int .u32 0, .int .u32 0, .int .u32 0, .int .u32 0, .int .u32 0, .int .u32 0, .int .u32 0, .int .u32 0, .bool false, .int .u32 0]) (t := 73) ?hr ?_; (case hd => rfl); (case hg => rfl); (case hr => first | (go_simp; done) | (go_simp; rfl)); intro gr hg w3 hbox hb; have GR := Aside0.mk hg; have B3 := Aside0.mk hbox; have W3 := Aside0.mk hb; clear hg hbox hb; have HS := Aside0.mk (blk_below B2.out W3.out); have hq0 := (blk_cell HS.out 0).trans rfl; obtain ⟨ad, rfl, hx0, hx1, hx2, hx3⟩ := at_T53 HR0.out t ht ht1; rw [hx] at hx0 hx1 hx2 hx3; simp only at hx0 hx1 hx2 hx3; have WW := Aside0.mk (below_step (below_step (below_step (Below.refl w.heap.size w) W1.out) W2.out) W3.out); replace hx0 := (WW.out.cell (World.block_lt_of_cell? w _ hx0)).trans hx0; replace hx1 := (WW.out.cell (World.block_lt_of_cell? w _ hx1)).trans hx1; replace hx2 := (WW.out.cell (World.block_lt_of_cell? w _ hx2)).trans hx2; replace hx3 := (WW.out.cell (World.block_lt_of_cell? w _ hx3)).trans hx3; have p0 := decide_eq_true ht; have p1 := decide_eq_true ht1) | ((with_reducible refine gate_dst (N := 7) rfl ?_); refine box_event ?hg (N := 7) ?hd (cs := #[.int .u16 0, .int .u8 0, .int .u8 0, .int .u32 0]) (t := 53) ?hr ?_; (case hd => rfl); (case hg => rfl); (case hr => first | (go_simp; done) | (go_simp; rfl)); intro gx hg w4 hbox hb; have GX := Aside0.mk hg; have B4 := Aside0.mk hbox; have W4 := Aside0.mk hb; clear hg hbox hb; have hne : gs ≠ gx := (by rw [GX.out]; exact Nat.ne_of_lt (blk_lt HS.out)); have HS := Aside0.mk (blk_below HS.out W4.out); have hq0 := (blk_cell HS.out 0).trans rfl; have hq1 := (blk_cell HS.out 1).trans rfl; have hf0 := blk_frozen HS.out 0; have hf1 := blk_frozen HS.out 1; have hf2 := blk_frozen B4.out 0; have hf3 := blk_frozen B4.out 1; have hf4 := blk_frozen B4.out 2; have hf5 := blk_frozen B4.out 3; have hg0 := (blk_cell B4.out 0).trans rfl; have hg1 := (blk_cell B4.out 1).trans rfl; have hg2 := (blk_cell B4.out 2).trans rfl; have hg3 := (blk_cell B4.out 3).trans rfl))
  (try simp only [Act.put, List.setIfInBounds_toArray, List.set_cons_zero, List.set_cons_succ])
  refine step_gen (R := fun wc => StB w wc gd gs gr gx #[.int .u32 d0, .int .u32 d1, .int .u64 d2, .int .u64 d3, .int .u64 d4, .int .u64 d5, .int .u64 d6, .int .u64 d7, .int .u64 d8] (stA (wrap64 (t + 1)) (wrap64 (n + 1)) s) _) (step_made B1.out B2.out B3.out B4.out W1.out W2.out W3.out W4.out GD.out GS.out GR.out GX.out _ jt jf K) (fun wc hB0 => ?_)
  have hB := Aside0.mk hB0
  clear hB0
  clear hx0 hx1 hx2 hx3 hq0 hq1 hf0 hf1 hf2 hf3 hf4 hf5 hg0 hg1 hg2 hg3 hne p0 p1 B1 B2 B3 B4 W1 W2 W3 W4 GD GS GR GX HS WW HR0 HC0
  have n1 := hB.out.sd
  have n2 := hB.out.sr
  have n3 := hB.out.sx
  have n4 := hB.out.sr.symm
  have n5 := hB.out.sx.symm
  have fs := fun j => blk_frozen hB.out.bs j
  have z0 : wc.cell? ⟨gs, 0, none⟩ = some (.int .i64 (wrap64 (t + 1))) := (blk_cell hB.out.bs 0).trans rfl
  have z2 : wc.cell? ⟨gs, 2, none⟩ = some (.int .u32 s.a) := (blk_cell hB.out.bs 2).trans rfl
  have z3 : wc.cell? ⟨gs, 3, none⟩ = some (.int .u32 s.x) := (blk_cell hB.out.bs 3).trans rfl
  have z20 : wc.cell? ⟨gs, 20, none⟩ = some (.bool s.o) := (blk_cell hB.out.bs 20).trans rfl
  have z21 : wc.cell? ⟨gs, 21, none⟩ = some (.int .u32 s.r) := (blk_cell hB.out.bs 21).trans rfl
  have x1 : wc.cell? ⟨gx, 1, none⟩ = some (.int .u8 jt) := (blk_cell hB.out.bx 1).trans rfl
  have x2 : wc.cell? ⟨gx, 2, none⟩ = some (.int .u8 jf) := (blk_cell hB.out.bx 2).trans rfl
  have x3 : wc.cell? ⟨gx, 3, none⟩ = some (.int .u32 K) := (blk_cell hB.out.bx 3).trans rfl
  go_wp2_with (first | ((with_reducible refine gate_dst (N := 176) rfl ?_); refine wpList_load_row rfl 73 (.tmp 5) rfl gs rfl 73 (stA (wrap64 (t + 1)) (wrap64 (n + 1)) { s with a := K }) (0, 0) _ (show StB _ _ _ _ _ _ _ (stA (wrap64 (t + 1)) (wrap64 (n + 1)) { s with a := K }) _ from (hB.out).put 2 _ rfl).bs Try.underlying73 rfl (by kernel_rfl) ?_) | ((with_reducible refine gate_store (t := 73) (p := 6) rfl ?_); refine wpList_store_row rfl 73 (.tmp 6) (.tmp 176) rfl gr (stA (wrap64 (t + 1)) (wrap64 (n + 1)) { s with a := K }) rfl rfl 73 _ (show StB _ _ _ _ _ _ _ (stA (wrap64 (t + 1)) (wrap64 (n + 1)) { s with a := K }) _ from (hB.out).put 2 _ rfl).br (by kernel_rfl) rfl (stA_one _ _ _) ?_))
  refine bodyPost_ret (results_cell_row rfl _ _ gr 73 (stA (wrap64 (t + 1)) (wrap64 (n + 1)) { s with a := K }) (0, 0) _ rfl (setRow_heap _ _ _ _ _ _ (show StB _ _ _ _ _ _ _ (stA (wrap64 (t + 1)) (wrap64 (n + 1)) { s with a := K }) _ from (hB.out).put 2 _ rfl).br) Try.underlying73 rfl (by kernel_rfl)) rfl ?_
  exact ⟨rfl, step_setRow (show StB _ _ _ _ _ _ _ (stA (wrap64 (t + 1)) (wrap64 (n + 1)) { s with a := K }) _ from (hB.out).put 2 _ rfl).below (by first | exact hB2.out.gr0 | exact hB.out.gr0) _⟩
set_option maxHeartbeats 8000000 in
set_option maxRecDepth 100000 in
theorem fairleadref06_Step.c1 (k : Nat) (A0 : Option Addr) (c0 : Nat) (l0 : List S53) (d0 d1 d2 d3 d4 d5 d6 d7 d8 t n jt jf K : Int) (s : StS) (w : World) (hr0 : Kd.C k53 w A0 l0.length l0) (hc0 : l0.length ≤ c0) (ht : 0 ≤ t) (ht1 : t < l0.length) (hx : rd_T53 l0 t = ⟨1, jt, jf, K⟩) :
  Calls Try.prog 35 #[.slice A0 l0.length c0, .agg #[.int .u32 d0, .int .u32 d1, .int .u64 d2, .int .u64 d3, .int .u64 d4, .int .u64 d5, .int .u64 d6, .int .u64 d7, .int .u64 d8], .agg (stA t n s)] w fun e w' => e = .returned (.agg (stA (wrap64 (t + 1)) (wrap64 (n + 1)) { s with x := K })) ∧ Below w.heap.size w w' := by
  have hu27_ := Try.underlying27
  have hu56_ := Try.underlying73
  have hu37_ := Try.underlying53
  have HR0 := Aside0.mk hr0
  have HC0 := Aside0.mk hc0
  clear hr0 hc0
  go_enter Try.func35, Try.ntmps35
  go_upto_region 6 with (first | ((with_reducible refine gate_dst (N := 4) rfl ?_); refine box_event ?hg (N := 4) ?hd (cs := #[.int .u32 d0, .int .u32 d1, .int .u64 d2, .int .u64 d3, .int .u64 d4, .int .u64 d5, .int .u64 d6, .int .u64 d7, .int .u64 d8]) (t := 27) ?hr ?_; (case hd => rfl); (case hg => rfl); (case hr => first | (go_simp; done) | (go_simp; rfl)); intro gd hg w1 hbox hb; have GD := Aside0.mk hg; have B1 := Aside0.mk hbox; have W1 := Aside0.mk hb; clear hg hbox hb) | ((with_reducible refine gate_dst (N := 5) rfl ?_); refine box_event ?hg (N := 5) ?hd (cs := #[.int .i64 (t), .int .i64 (n), .int .u32 s.a, .int .u32 s.x, .int .u32 (s.C 0), .int .u32 (s.C 1), .int .u32 (s.C 2), .int .u32 (s.C 3), .int .u32 (s.C 4), .int .u32 (s.C 5), .int .u32 (s.C 6), .int .u32 (s.C 7), .int .u32 (s.C 8), .int .u32 (s.C 9), .int .u32 (s.C 10), .int .u32 (s.C 11), .int .u32 (s.C 12), .int .u32 (s.C 13), .int .u32 (s.C 14), .int .u32 (s.C 15), .bool s.o, .int .u32 s.r]) (t := 73) ?hr ?_; (case hd => rfl); (case hg => rfl); (case hr => first | (go_simp; done) | (go_simp; rfl)); intro gs hg w2 hbox hb; have GS := Aside0.mk hg; have B2 := Aside0.mk hbox; have W2 := Aside0.mk hb; clear hg hbox hb) | ((with_reducible refine gate_dst (N := 6) rfl ?_); refine box_event ?hg (N := 6) ?hd (cs := #[.int .i64 0, .int .i64 0, .int .u32 0, .int .u32 0, .int .u32 0, .int .u32 0, .int .u32 0, .int .u32 0, .int .u32 0, .int .u32 0, .int .u32 0, .int .u32 0, .int .u32 0, .int .u32 0, .int .u32 0, .int .u32 0, .int .u32 0, .int .u32 0, .int .u32 0, .int .u32 0, .bool false, .int .u32 0]) (t := 73) ?hr ?_; (case hd => rfl); (case hg => rfl); (case hr => first | (go_simp; done) | (go_simp; rfl)); intro gr hg w3 hbox hb; have GR := Aside0.mk hg; have B3 := Aside0.mk hbox; have W3 := Aside0.mk hb; clear hg hbox hb; have HS := Aside0.mk (blk_below B2.out W3.out); have hq0 := (blk_cell HS.out 0).trans rfl; obtain ⟨ad, rfl, hx0, hx1, hx2, hx3⟩ := at_T53 HR0.out t ht ht1; rw [hx] at hx0 hx1 hx2 hx3; simp only at hx0 hx1 hx2 hx3; have WW := Aside0.mk (below_step (below_step (below_step (Below.refl w.heap.size w) W1.out) W2.out) W3.out); replace hx0 := (WW.out.cell (World.block_lt_of_cell? w _ hx0)).trans hx0; replace hx1 := (WW.out.cell (World.block_lt_of_cell? w _ hx1)).trans hx1; replace hx2 := (WW.out.cell (World.block_lt_of_cell? w _ hx2)).trans hx2; replace hx3 := (WW.out.cell (World.block_lt_of_cell? w _ hx3)).trans hx3; have p0 := decide_eq_true ht; have p1 := decide_eq_true ht1) | ((with_reducible refine gate_dst (N := 7) rfl ?_); refine box_event ?hg (N := 7) ?hd (cs := #[.int .u16 0, .int .u8 0, .int .u8 0, .int .u32 0]) (t := 53) ?hr ?_; (case hd => rfl); (case hg => rfl); (case hr => first | (go_simp; done) | (go_simp; rfl)); intro gx hg w4 hbox hb; have GX := Aside0.mk hg; have B4 := Aside0.mk hbox; have W4 := Aside0.mk hb; clear hg hbox hb; have hne : gs ≠ gx := (by rw [GX.out]; exact Nat.ne_of_lt (blk_lt HS.out)); have HS := Aside0.mk (blk_below HS.out W4.out); have hq0 := (blk_cell HS.out 0).trans rfl; have hq1 := (blk_cell HS.out 1).trans rfl; have hf0 := blk_frozen HS.out 0; have hf1 := blk_frozen HS.out 1; have hf2 := blk_frozen B4.out 0; have hf3 := blk_frozen B4.out 1; have hf4 := blk_frozen B4.out 2; have hf5 := blk_frozen B4.out 3; have hg0 := (blk_cell B4.out 0).trans rfl; have hg1 := (blk_cell B4.out 1).trans rfl; have hg2 := (blk_cell B4.out 2).trans rfl; have hg3 := (blk_cell B4.out 3).trans rfl))
  (try simp only [Act.put, List.setIfInBounds_toArray, List.set_cons_zero, List.set_cons_succ])
  refine step_gen (R := fun wc => StB w wc gd gs gr gx #[.int .u32 d0, .int .u32 d1, .int .u64 d2, .int .u64 d3, .int .u64 d4, .int .u64 d5, .int .u64 d6, .int .u64 d7, .int .u64 d8] (stA (wrap64 (t + 1)) (wrap64 (n + 1)) s) _) (step_made B1.out B2.out B3.out B4.out W1.out W2.out W3.out W4.out GD.out GS.out GR.out GX.out _ jt jf K) (fun wc hB0 => ?_)
  have hB := Aside0.mk hB0
  clear hB0
  clear hx0 hx1 hx2 hx3 hq0 hq1 hf0 hf1 hf2 hf3 hf4 hf5 hg0 hg1 hg2 hg3 hne p0 p1 B1 B2 B3 B4 W1 W2 W3 W4 GD GS GR GX HS WW HR0 HC0
  have n1 := hB.out.sd
  have n2 := hB.out.sr
  have n3 := hB.out.sx
  have n4 := hB.out.sr.symm
  have n5 := hB.out.sx.symm
  have fs := fun j => blk_frozen hB.out.bs j
  have z0 : wc.cell? ⟨gs, 0, none⟩ = some (.int .i64 (wrap64 (t + 1))) := (blk_cell hB.out.bs 0).trans rfl
  have z2 : wc.cell? ⟨gs, 2, none⟩ = some (.int .u32 s.a) := (blk_cell hB.out.bs 2).trans rfl
  have z3 : wc.cell? ⟨gs, 3, none⟩ = some (.int .u32 s.x) := (blk_cell hB.out.bs 3).trans rfl
  have z20 : wc.cell? ⟨gs, 20, none⟩ = some (.bool s.o) := (blk_cell hB.out.bs 20).trans rfl
  have z21 : wc.cell? ⟨gs, 21, none⟩ = some (.int .u32 s.r) := (blk_cell hB.out.bs 21).trans rfl
  have x1 : wc.cell? ⟨gx, 1, none⟩ = some (.int .u8 jt) := (blk_cell hB.out.bx 1).trans rfl
  have x2 : wc.cell? ⟨gx, 2, none⟩ = some (.int .u8 jf) := (blk_cell hB.out.bx 2).trans rfl
  have x3 : wc.cell? ⟨gx, 3, none⟩ = some (.int .u32 K) := (blk_cell hB.out.bx 3).trans rfl
  go_wp2_with (first | ((with_reducible refine gate_dst (N := 176) rfl ?_); refine wpList_load_row rfl 73 (.tmp 5) rfl gs rfl 73 (stA (wrap64 (t + 1)) (wrap64 (n + 1)) { s with x := K }) (0, 0) _ (show StB _ _ _ _ _ _ _ (stA (wrap64 (t + 1)) (wrap64 (n + 1)) { s with x := K }) _ from (hB.out).put 3 _ rfl).bs Try.underlying73 rfl (by kernel_rfl) ?_) | ((with_reducible refine gate_store (t := 73) (p := 6) rfl ?_); refine wpList_store_row rfl 73 (.tmp 6) (.tmp 176) rfl gr (stA (wrap64 (t + 1)) (wrap64 (n + 1)) { s with x := K }) rfl rfl 73 _ (show StB _ _ _ _ _ _ _ (stA (wrap64 (t + 1)) (wrap64 (n + 1)) { s with x := K }) _ from (hB.out).put 3 _ rfl).br (by kernel_rfl) rfl (stA_one _ _ _) ?_))
  refine bodyPost_ret (results_cell_row rfl _ _ gr 73 (stA (wrap64 (t + 1)) (wrap64 (n + 1)) { s with x := K }) (0, 0) _ rfl (setRow_heap _ _ _ _ _ _ (show StB _ _ _ _ _ _ _ (stA (wrap64 (t + 1)) (wrap64 (n + 1)) { s with x := K }) _ from (hB.out).put 3 _ rfl).br) Try.underlying73 rfl (by kernel_rfl)) rfl ?_
  exact ⟨rfl, step_setRow (show StB _ _ _ _ _ _ _ (stA (wrap64 (t + 1)) (wrap64 (n + 1)) { s with x := K }) _ from (hB.out).put 3 _ rfl).below (by first | exact hB2.out.gr0 | exact hB.out.gr0) _⟩
set_option maxHeartbeats 8000000 in
set_option maxRecDepth 100000 in
theorem fairleadref06_Step.c7 (k : Nat) (A0 : Option Addr) (c0 : Nat) (l0 : List S53) (d0 d1 d2 d3 d4 d5 d6 d7 d8 t n jt jf K : Int) (s : StS) (w : World) (hr0 : Kd.C k53 w A0 l0.length l0) (hc0 : l0.length ≤ c0) (ht : 0 ≤ t) (ht1 : t < l0.length) (hx : rd_T53 l0 t = ⟨7, jt, jf, K⟩) :
  Calls Try.prog 35 #[.slice A0 l0.length c0, .agg #[.int .u32 d0, .int .u32 d1, .int .u64 d2, .int .u64 d3, .int .u64 d4, .int .u64 d5, .int .u64 d6, .int .u64 d7, .int .u64 d8], .agg (stA t n s)] w fun e w' => e = .returned (.agg (stA (wrap64 (t + 1)) (wrap64 (n + 1)) { s with x := s.a })) ∧ Below w.heap.size w w' := by
  have hu27_ := Try.underlying27
  have hu56_ := Try.underlying73
  have hu37_ := Try.underlying53
  have HR0 := Aside0.mk hr0
  have HC0 := Aside0.mk hc0
  clear hr0 hc0
  go_enter Try.func35, Try.ntmps35
  go_upto_region 6 with (first | ((with_reducible refine gate_dst (N := 4) rfl ?_); refine box_event ?hg (N := 4) ?hd (cs := #[.int .u32 d0, .int .u32 d1, .int .u64 d2, .int .u64 d3, .int .u64 d4, .int .u64 d5, .int .u64 d6, .int .u64 d7, .int .u64 d8]) (t := 27) ?hr ?_; (case hd => rfl); (case hg => rfl); (case hr => first | (go_simp; done) | (go_simp; rfl)); intro gd hg w1 hbox hb; have GD := Aside0.mk hg; have B1 := Aside0.mk hbox; have W1 := Aside0.mk hb; clear hg hbox hb) | ((with_reducible refine gate_dst (N := 5) rfl ?_); refine box_event ?hg (N := 5) ?hd (cs := #[.int .i64 (t), .int .i64 (n), .int .u32 s.a, .int .u32 s.x, .int .u32 (s.C 0), .int .u32 (s.C 1), .int .u32 (s.C 2), .int .u32 (s.C 3), .int .u32 (s.C 4), .int .u32 (s.C 5), .int .u32 (s.C 6), .int .u32 (s.C 7), .int .u32 (s.C 8), .int .u32 (s.C 9), .int .u32 (s.C 10), .int .u32 (s.C 11), .int .u32 (s.C 12), .int .u32 (s.C 13), .int .u32 (s.C 14), .int .u32 (s.C 15), .bool s.o, .int .u32 s.r]) (t := 73) ?hr ?_; (case hd => rfl); (case hg => rfl); (case hr => first | (go_simp; done) | (go_simp; rfl)); intro gs hg w2 hbox hb; have GS := Aside0.mk hg; have B2 := Aside0.mk hbox; have W2 := Aside0.mk hb; clear hg hbox hb) | ((with_reducible refine gate_dst (N := 6) rfl ?_); refine box_event ?hg (N := 6) ?hd (cs := #[.int .i64 0, .int .i64 0, .int .u32 0, .int .u32 0, .int .u32 0, .int .u32 0, .int .u32 0, .int .u32 0, .int .u32 0, .int .u32 0, .int .u32 0, .int .u32 0, .int .u32 0, .int .u32 0, .int .u32 0, .int .u32 0, .int .u32 0, .int .u32 0, .int .u32 0, .int .u32 0, .bool false, .int .u32 0]) (t := 73) ?hr ?_; (case hd => rfl); (case hg => rfl); (case hr => first | (go_simp; done) | (go_simp; rfl)); intro gr hg w3 hbox hb; have GR := Aside0.mk hg; have B3 := Aside0.mk hbox; have W3 := Aside0.mk hb; clear hg hbox hb; have HS := Aside0.mk (blk_below B2.out W3.out); have hq0 := (blk_cell HS.out 0).trans rfl; obtain ⟨ad, rfl, hx0, hx1, hx2, hx3⟩ := at_T53 HR0.out t ht ht1; rw [hx] at hx0 hx1 hx2 hx3; simp only at hx0 hx1 hx2 hx3; have WW := Aside0.mk (below_step (below_step (below_step (Below.refl w.heap.size w) W1.out) W2.out) W3.out); replace hx0 := (WW.out.cell (World.block_lt_of_cell? w _ hx0)).trans hx0; replace hx1 := (WW.out.cell (World.block_lt_of_cell? w _ hx1)).trans hx1; replace hx2 := (WW.out.cell (World.block_lt_of_cell? w _ hx2)).trans hx2; replace hx3 := (WW.out.cell (World.block_lt_of_cell? w _ hx3)).trans hx3; have p0 := decide_eq_true ht; have p1 := decide_eq_true ht1) | ((with_reducible refine gate_dst (N := 7) rfl ?_); refine box_event ?hg (N := 7) ?hd (cs := #[.int .u16 0, .int .u8 0, .int .u8 0, .int .u32 0]) (t := 53) ?hr ?_; (case hd => rfl); (case hg => rfl); (case hr => first | (go_simp; done) | (go_simp; rfl)); intro gx hg w4 hbox hb; have GX := Aside0.mk hg; have B4 := Aside0.mk hbox; have W4 := Aside0.mk hb; clear hg hbox hb; have hne : gs ≠ gx := (by rw [GX.out]; exact Nat.ne_of_lt (blk_lt HS.out)); have HS := Aside0.mk (blk_below HS.out W4.out); have hq0 := (blk_cell HS.out 0).trans rfl; have hq1 := (blk_cell HS.out 1).trans rfl; have hf0 := blk_frozen HS.out 0; have hf1 := blk_frozen HS.out 1; have hf2 := blk_frozen B4.out 0; have hf3 := blk_frozen B4.out 1; have hf4 := blk_frozen B4.out 2; have hf5 := blk_frozen B4.out 3; have hg0 := (blk_cell B4.out 0).trans rfl; have hg1 := (blk_cell B4.out 1).trans rfl; have hg2 := (blk_cell B4.out 2).trans rfl; have hg3 := (blk_cell B4.out 3).trans rfl))
  (try simp only [Act.put, List.setIfInBounds_toArray, List.set_cons_zero, List.set_cons_succ])
  refine step_gen (R := fun wc => StB w wc gd gs gr gx #[.int .u32 d0, .int .u32 d1, .int .u64 d2, .int .u64 d3, .int .u64 d4, .int .u64 d5, .int .u64 d6, .int .u64 d7, .int .u64 d8] (stA (wrap64 (t + 1)) (wrap64 (n + 1)) s) _) (step_made B1.out B2.out B3.out B4.out W1.out W2.out W3.out W4.out GD.out GS.out GR.out GX.out _ jt jf K) (fun wc hB0 => ?_)
  have hB := Aside0.mk hB0
  clear hB0
  clear hx0 hx1 hx2 hx3 hq0 hq1 hf0 hf1 hf2 hf3 hf4 hf5 hg0 hg1 hg2 hg3 hne p0 p1 B1 B2 B3 B4 W1 W2 W3 W4 GD GS GR GX HS WW HR0 HC0
  have n1 := hB.out.sd
  have n2 := hB.out.sr
  have n3 := hB.out.sx
  have n4 := hB.out.sr.symm
  have n5 := hB.out.sx.symm
  have fs := fun j => blk_frozen hB.out.bs j
  have z0 : wc.cell? ⟨gs, 0, none⟩ = some (.int .i64 (wrap64 (t + 1))) := (blk_cell hB.out.bs 0).trans rfl
  have z2 : wc.cell? ⟨gs, 2, none⟩ = some (.int .u32 s.a) := (blk_cell hB.out.bs 2).trans rfl
  have z3 : wc.cell? ⟨gs, 3, none⟩ = some (.int .u32 s.x) := (blk_cell hB.out.bs 3).trans rfl
  have z20 : wc.cell? ⟨gs, 20, none⟩ = some (.bool s.o) := (blk_cell hB.out.bs 20).trans rfl
  have z21 : wc.cell? ⟨gs, 21, none⟩ = some (.int .u32 s.r) := (blk_cell hB.out.bs 21).trans rfl
  have x1 : wc.cell? ⟨gx, 1, none⟩ = some (.int .u8 jt) := (blk_cell hB.out.bx 1).trans rfl
  have x2 : wc.cell? ⟨gx, 2, none⟩ = some (.int .u8 jf) := (blk_cell hB.out.bx 2).trans rfl
  have x3 : wc.cell? ⟨gx, 3, none⟩ = some (.int .u32 K) := (blk_cell hB.out.bx 3).trans rfl
  go_wp2_with (first | ((with_reducible refine gate_dst (N := 176) rfl ?_); refine wpList_load_row rfl 73 (.tmp 5) rfl gs rfl 73 (stA (wrap64 (t + 1)) (wrap64 (n + 1)) { s with x := s.a }) (0, 0) _ (show StB _ _ _ _ _ _ _ (stA (wrap64 (t + 1)) (wrap64 (n + 1)) { s with x := s.a }) _ from (hB.out).put 3 _ rfl).bs Try.underlying73 rfl (by kernel_rfl) ?_) | ((with_reducible refine gate_store (t := 73) (p := 6) rfl ?_); refine wpList_store_row rfl 73 (.tmp 6) (.tmp 176) rfl gr (stA (wrap64 (t + 1)) (wrap64 (n + 1)) { s with x := s.a }) rfl rfl 73 _ (show StB _ _ _ _ _ _ _ (stA (wrap64 (t + 1)) (wrap64 (n + 1)) { s with x := s.a }) _ from (hB.out).put 3 _ rfl).br (by kernel_rfl) rfl (stA_one _ _ _) ?_))
  refine bodyPost_ret (results_cell_row rfl _ _ gr 73 (stA (wrap64 (t + 1)) (wrap64 (n + 1)) { s with x := s.a }) (0, 0) _ rfl (setRow_heap _ _ _ _ _ _ (show StB _ _ _ _ _ _ _ (stA (wrap64 (t + 1)) (wrap64 (n + 1)) { s with x := s.a }) _ from (hB.out).put 3 _ rfl).br) Try.underlying73 rfl (by kernel_rfl)) rfl ?_
  exact ⟨rfl, step_setRow (show StB _ _ _ _ _ _ _ (stA (wrap64 (t + 1)) (wrap64 (n + 1)) { s with x := s.a }) _ from (hB.out).put 3 _ rfl).below (by first | exact hB2.out.gr0 | exact hB.out.gr0) _⟩
set_option maxHeartbeats 8000000 in
set_option maxRecDepth 100000 in
theorem fairleadref06_Step.c135 (k : Nat) (A0 : Option Addr) (c0 : Nat) (l0 : List S53) (d0 d1 d2 d3 d4 d5 d6 d7 d8 t n jt jf K : Int) (s : StS) (w : World) (hr0 : Kd.C k53 w A0 l0.length l0) (hc0 : l0.length ≤ c0) (ht : 0 ≤ t) (ht1 : t < l0.length) (hx : rd_T53 l0 t = ⟨135, jt, jf, K⟩) :
  Calls Try.prog 35 #[.slice A0 l0.length c0, .agg #[.int .u32 d0, .int .u32 d1, .int .u64 d2, .int .u64 d3, .int .u64 d4, .int .u64 d5, .int .u64 d6, .int .u64 d7, .int .u64 d8], .agg (stA t n s)] w fun e w' => e = .returned (.agg (stA (wrap64 (t + 1)) (wrap64 (n + 1)) { s with a := s.x })) ∧ Below w.heap.size w w' := by
  have hu27_ := Try.underlying27
  have hu56_ := Try.underlying73
  have hu37_ := Try.underlying53
  have HR0 := Aside0.mk hr0
  have HC0 := Aside0.mk hc0
  clear hr0 hc0
  go_enter Try.func35, Try.ntmps35
  go_upto_region 6 with (first | ((with_reducible refine gate_dst (N := 4) rfl ?_); refine box_event ?hg (N := 4) ?hd (cs := #[.int .u32 d0, .int .u32 d1, .int .u64 d2, .int .u64 d3, .int .u64 d4, .int .u64 d5, .int .u64 d6, .int .u64 d7, .int .u64 d8]) (t := 27) ?hr ?_; (case hd => rfl); (case hg => rfl); (case hr => first | (go_simp; done) | (go_simp; rfl)); intro gd hg w1 hbox hb; have GD := Aside0.mk hg; have B1 := Aside0.mk hbox; have W1 := Aside0.mk hb; clear hg hbox hb) | ((with_reducible refine gate_dst (N := 5) rfl ?_); refine box_event ?hg (N := 5) ?hd (cs := #[.int .i64 (t), .int .i64 (n), .int .u32 s.a, .int .u32 s.x, .int .u32 (s.C 0), .int .u32 (s.C 1), .int .u32 (s.C 2), .int .u32 (s.C 3), .int .u32 (s.C 4), .int .u32 (s.C 5), .int .u32 (s.C 6), .int .u32 (s.C 7), .int .u32 (s.C 8), .int .u32 (s.C 9), .int .u32 (s.C 10), .int .u32 (s.C 11), .int .u32 (s.C 12), .int .u32 (s.C 13), .int .u32 (s.C 14), .int .u32 (s.C 15), .bool s.o, .int .u32 s.r]) (t := 73) ?hr ?_; (case hd => rfl); (case hg => rfl); (case hr => first | (go_simp; done) | (go_simp; rfl)); intro gs hg w2 hbox hb; have GS := Aside0.mk hg; have B2 := Aside0.mk hbox; have W2 := Aside0.mk hb; clear hg hbox hb) | ((with_reducible refine gate_dst (N := 6) rfl ?_); refine box_event ?hg (N := 6) ?hd (cs := #[.int .i64 0, .int .i64 0, .int .u32 0, .int .u32 0, .int .u32 0, .int .u32 0, .int .u32 0, .int .u32 0, .int .u32 0, .int .u32 0, .int .u32 0, .int .u32 0, .int .u32 0, .int .u32 0, .int .u32 0, .int .u32 0, .int .u32 0, .int .u32 0, .int .u32 0, .int .u32 0, .bool false, .int .u32 0]) (t := 73) ?hr ?_; (case hd => rfl); (case hg => rfl); (case hr => first | (go_simp; done) | (go_simp; rfl)); intro gr hg w3 hbox hb; have GR := Aside0.mk hg; have B3 := Aside0.mk hbox; have W3 := Aside0.mk hb; clear hg hbox hb; have HS := Aside0.mk (blk_below B2.out W3.out); have hq0 := (blk_cell HS.out 0).trans rfl; obtain ⟨ad, rfl, hx0, hx1, hx2, hx3⟩ := at_T53 HR0.out t ht ht1; rw [hx] at hx0 hx1 hx2 hx3; simp only at hx0 hx1 hx2 hx3; have WW := Aside0.mk (below_step (below_step (below_step (Below.refl w.heap.size w) W1.out) W2.out) W3.out); replace hx0 := (WW.out.cell (World.block_lt_of_cell? w _ hx0)).trans hx0; replace hx1 := (WW.out.cell (World.block_lt_of_cell? w _ hx1)).trans hx1; replace hx2 := (WW.out.cell (World.block_lt_of_cell? w _ hx2)).trans hx2; replace hx3 := (WW.out.cell (World.block_lt_of_cell? w _ hx3)).trans hx3; have p0 := decide_eq_true ht; have p1 := decide_eq_true ht1) | ((with_reducible refine gate_dst (N := 7) rfl ?_); refine box_event ?hg (N := 7) ?hd (cs := #[.int .u16 0, .int .u8 0, .int .u8 0, .int .u32 0]) (t := 53) ?hr ?_; (case hd => rfl); (case hg => rfl); (case hr => first | (go_simp; done) | (go_simp; rfl)); intro gx hg w4 hbox hb; have GX := Aside0.mk hg; have B4 := Aside0.mk hbox; have W4 := Aside0.mk hb; clear hg hbox hb; have hne : gs ≠ gx := (by rw [GX.out]; exact Nat.ne_of_lt (blk_lt HS.out)); have HS := Aside0.mk (blk_below HS.out W4.out); have hq0 := (blk_cell HS.out 0).trans rfl; have hq1 := (blk_cell HS.out 1).trans rfl; have hf0 := blk_frozen HS.out 0; have hf1 := blk_frozen HS.out 1; have hf2 := blk_frozen B4.out 0; have hf3 := blk_frozen B4.out 1; have hf4 := blk_frozen B4.out 2; have hf5 := blk_frozen B4.out 3; have hg0 := (blk_cell B4.out 0).trans rfl; have hg1 := (blk_cell B4.out 1).trans rfl; have hg2 := (blk_cell B4.out 2).trans rfl; have hg3 := (blk_cell B4.out 3).trans rfl))
  (try simp only [Act.put, List.setIfInBounds_toArray, List.set_cons_zero, List.set_cons_succ])
  refine step_gen (R := fun wc => StB w wc gd gs gr gx #[.int .u32 d0, .int .u32 d1, .int .u64 d2, .int .u64 d3, .int .u64 d4, .int .u64 d5, .int .u64 d6, .int .u64 d7, .int .u64 d8] (stA (wrap64 (t + 1)) (wrap64 (n + 1)) s) _) (step_made B1.out B2.out B3.out B4.out W1.out W2.out W3.out W4.out GD.out GS.out GR.out GX.out _ jt jf K) (fun wc hB0 => ?_)
  have hB := Aside0.mk hB0
  clear hB0
  clear hx0 hx1 hx2 hx3 hq0 hq1 hf0 hf1 hf2 hf3 hf4 hf5 hg0 hg1 hg2 hg3 hne p0 p1 B1 B2 B3 B4 W1 W2 W3 W4 GD GS GR GX HS WW HR0 HC0
  have n1 := hB.out.sd
  have n2 := hB.out.sr
  have n3 := hB.out.sx
  have n4 := hB.out.sr.symm
  have n5 := hB.out.sx.symm
  have fs := fun j => blk_frozen hB.out.bs j
  have z0 : wc.cell? ⟨gs, 0, none⟩ = some (.int .i64 (wrap64 (t + 1))) := (blk_cell hB.out.bs 0).trans rfl
  have z2 : wc.cell? ⟨gs, 2, none⟩ = some (.int .u32 s.a) := (blk_cell hB.out.bs 2).trans rfl
  have z3 : wc.cell? ⟨gs, 3, none⟩ = some (.int .u32 s.x) := (blk_cell hB.out.bs 3).trans rfl
  have z20 : wc.cell? ⟨gs, 20, none⟩ = some (.bool s.o) := (blk_cell hB.out.bs 20).trans rfl
  have z21 : wc.cell? ⟨gs, 21, none⟩ = some (.int .u32 s.r) := (blk_cell hB.out.bs 21).trans rfl
  have x1 : wc.cell? ⟨gx, 1, none⟩ = some (.int .u8 jt) := (blk_cell hB.out.bx 1).trans rfl
  have x2 : wc.cell? ⟨gx, 2, none⟩ = some (.int .u8 jf) := (blk_cell hB.out.bx 2).trans rfl
  have x3 : wc.cell? ⟨gx, 3, none⟩ = some (.int .u32 K) := (blk_cell hB.out.bx 3).trans rfl
  go_wp2_with (first | ((with_reducible refine gate_dst (N := 176) rfl ?_); refine wpList_load_row rfl 73 (.tmp 5) rfl gs rfl 73 (stA (wrap64 (t + 1)) (wrap64 (n + 1)) { s with a := s.x }) (0, 0) _ (show StB _ _ _ _ _ _ _ (stA (wrap64 (t + 1)) (wrap64 (n + 1)) { s with a := s.x }) _ from (hB.out).put 2 _ rfl).bs Try.underlying73 rfl (by kernel_rfl) ?_) | ((with_reducible refine gate_store (t := 73) (p := 6) rfl ?_); refine wpList_store_row rfl 73 (.tmp 6) (.tmp 176) rfl gr (stA (wrap64 (t + 1)) (wrap64 (n + 1)) { s with a := s.x }) rfl rfl 73 _ (show StB _ _ _ _ _ _ _ (stA (wrap64 (t + 1)) (wrap64 (n + 1)) { s with a := s.x }) _ from (hB.out).put 2 _ rfl).br (by kernel_rfl) rfl (stA_one _ _ _) ?_))
  refine bodyPost_ret (results_cell_row rfl _ _ gr 73 (stA (wrap64 (t + 1)) (wrap64 (n + 1)) { s with a := s.x }) (0, 0) _ rfl (setRow_heap _ _ _ _ _ _ (show StB _ _ _ _ _ _ _ (stA (wrap64 (t + 1)) (wrap64 (n + 1)) { s with a := s.x }) _ from (hB.out).put 2 _ rfl).br) Try.underlying73 rfl (by kernel_rfl)) rfl ?_
  exact ⟨rfl, step_setRow (show StB _ _ _ _ _ _ _ (stA (wrap64 (t + 1)) (wrap64 (n + 1)) { s with a := s.x }) _ from (hB.out).put 2 _ rfl).below (by first | exact hB2.out.gr0 | exact hB.out.gr0) _⟩
set_option maxHeartbeats 8000000 in
set_option maxRecDepth 100000 in
theorem fairleadref06_Step.c132 (k : Nat) (A0 : Option Addr) (c0 : Nat) (l0 : List S53) (d0 d1 d2 d3 d4 d5 d6 d7 d8 t n jt jf K : Int) (s : StS) (w : World) (hr0 : Kd.C k53 w A0 l0.length l0) (hc0 : l0.length ≤ c0) (ht : 0 ≤ t) (ht1 : t < l0.length) (hx : rd_T53 l0 t = ⟨132, jt, jf, K⟩) :
  Calls Try.prog 35 #[.slice A0 l0.length c0, .agg #[.int .u32 d0, .int .u32 d1, .int .u64 d2, .int .u64 d3, .int .u64 d4, .int .u64 d5, .int .u64 d6, .int .u64 d7, .int .u64 d8], .agg (stA t n s)] w fun e w' => e = .returned (.agg (stA (wrap64 (t + 1)) (wrap64 (n + 1)) { s with a := (-s.a) % 4294967296 })) ∧ Below w.heap.size w w' := by
  have hu27_ := Try.underlying27
  have hu56_ := Try.underlying73
  have hu37_ := Try.underlying53
  have HR0 := Aside0.mk hr0
  have HC0 := Aside0.mk hc0
  clear hr0 hc0
  go_enter Try.func35, Try.ntmps35
  go_upto_region 6 with (first | ((with_reducible refine gate_dst (N := 4) rfl ?_); refine box_event ?hg (N := 4) ?hd (cs := #[.int .u32 d0, .int .u32 d1, .int .u64 d2, .int .u64 d3, .int .u64 d4, .int .u64 d5, .int .u64 d6, .int .u64 d7, .int .u64 d8]) (t := 27) ?hr ?_; (case hd => rfl); (case hg => rfl); (case hr => first | (go_simp; done) | (go_simp; rfl)); intro gd hg w1 hbox hb; have GD := Aside0.mk hg; have B1 := Aside0.mk hbox; have W1 := Aside0.mk hb; clear hg hbox hb) | ((with_reducible refine gate_dst (N := 5) rfl ?_); refine box_event ?hg (N := 5) ?hd (cs := #[.int .i64 (t), .int .i64 (n), .int .u32 s.a, .int .u32 s.x, .int .u32 (s.C 0), .int .u32 (s.C 1), .int .u32 (s.C 2), .int .u32 (s.C 3), .int .u32 (s.C 4), .int .u32 (s.C 5), .int .u32 (s.C 6), .int .u32 (s.C 7), .int .u32 (s.C 8), .int .u32 (s.C 9), .int .u32 (s.C 10), .int .u32 (s.C 11), .int .u32 (s.C 12), .int .u32 (s.C 13), .int .u32 (s.C 14), .int .u32 (s.C 15), .bool s.o, .int .u32 s.r]) (t := 73) ?hr ?_; (case hd => rfl); (case hg => rfl); (case hr => first | (go_simp; done) | (go_simp; rfl)); intro gs hg w2 hbox hb; have GS := Aside0.mk hg; have B2 := Aside0.mk hbox; have W2 := Aside0.mk hb; clear hg hbox hb) | ((with_reducible refine gate_dst (N := 6) rfl ?_); refine box_event ?hg (N := 6) ?hd (cs := #[.int .i64 0, .int .i64 0, .int .u32 0, .int .u32 0, .int .u32 0, .int .u32 0, .int .u32 0, .int .u32 0, .int .u32 0, .int .u32 0, .int .u32 0, .int .u32 0, .int .u32 0, .int .u32 0, .int .u32 0, .int .u32 0, .int .u32 0, .int .u32 0, .int .u32 0, .int .u32 0, .bool false, .int .u32 0]) (t := 73) ?hr ?_; (case hd => rfl); (case hg => rfl); (case hr => first | (go_simp; done) | (go_simp; rfl)); intro gr hg w3 hbox hb; have GR := Aside0.mk hg; have B3 := Aside0.mk hbox; have W3 := Aside0.mk hb; clear hg hbox hb; have HS := Aside0.mk (blk_below B2.out W3.out); have hq0 := (blk_cell HS.out 0).trans rfl; obtain ⟨ad, rfl, hx0, hx1, hx2, hx3⟩ := at_T53 HR0.out t ht ht1; rw [hx] at hx0 hx1 hx2 hx3; simp only at hx0 hx1 hx2 hx3; have WW := Aside0.mk (below_step (below_step (below_step (Below.refl w.heap.size w) W1.out) W2.out) W3.out); replace hx0 := (WW.out.cell (World.block_lt_of_cell? w _ hx0)).trans hx0; replace hx1 := (WW.out.cell (World.block_lt_of_cell? w _ hx1)).trans hx1; replace hx2 := (WW.out.cell (World.block_lt_of_cell? w _ hx2)).trans hx2; replace hx3 := (WW.out.cell (World.block_lt_of_cell? w _ hx3)).trans hx3; have p0 := decide_eq_true ht; have p1 := decide_eq_true ht1) | ((with_reducible refine gate_dst (N := 7) rfl ?_); refine box_event ?hg (N := 7) ?hd (cs := #[.int .u16 0, .int .u8 0, .int .u8 0, .int .u32 0]) (t := 53) ?hr ?_; (case hd => rfl); (case hg => rfl); (case hr => first | (go_simp; done) | (go_simp; rfl)); intro gx hg w4 hbox hb; have GX := Aside0.mk hg; have B4 := Aside0.mk hbox; have W4 := Aside0.mk hb; clear hg hbox hb; have hne : gs ≠ gx := (by rw [GX.out]; exact Nat.ne_of_lt (blk_lt HS.out)); have HS := Aside0.mk (blk_below HS.out W4.out); have hq0 := (blk_cell HS.out 0).trans rfl; have hq1 := (blk_cell HS.out 1).trans rfl; have hf0 := blk_frozen HS.out 0; have hf1 := blk_frozen HS.out 1; have hf2 := blk_frozen B4.out 0; have hf3 := blk_frozen B4.out 1; have hf4 := blk_frozen B4.out 2; have hf5 := blk_frozen B4.out 3; have hg0 := (blk_cell B4.out 0).trans rfl; have hg1 := (blk_cell B4.out 1).trans rfl; have hg2 := (blk_cell B4.out 2).trans rfl; have hg3 := (blk_cell B4.out 3).trans rfl))
  (try simp only [Act.put, List.setIfInBounds_toArray, List.set_cons_zero, List.set_cons_succ])
  refine step_gen (R := fun wc => StB w wc gd gs gr gx #[.int .u32 d0, .int .u32 d1, .int .u64 d2, .int .u64 d3, .int .u64 d4, .int .u64 d5, .int .u64 d6, .int .u64 d7, .int .u64 d8] (stA (wrap64 (t + 1)) (wrap64 (n + 1)) s) _) (step_made B1.out B2.out B3.out B4.out W1.out W2.out W3.out W4.out GD.out GS.out GR.out GX.out _ jt jf K) (fun wc hB0 => ?_)
  have hB := Aside0.mk hB0
  clear hB0
  clear hx0 hx1 hx2 hx3 hq0 hq1 hf0 hf1 hf2 hf3 hf4 hf5 hg0 hg1 hg2 hg3 hne p0 p1 B1 B2 B3 B4 W1 W2 W3 W4 GD GS GR GX HS WW HR0 HC0
  have n1 := hB.out.sd
  have n2 := hB.out.sr
  have n3 := hB.out.sx
  have n4 := hB.out.sr.symm
  have n5 := hB.out.sx.symm
  have fs := fun j => blk_frozen hB.out.bs j
  have z0 : wc.cell? ⟨gs, 0, none⟩ = some (.int .i64 (wrap64 (t + 1))) := (blk_cell hB.out.bs 0).trans rfl
  have z2 : wc.cell? ⟨gs, 2, none⟩ = some (.int .u32 s.a) := (blk_cell hB.out.bs 2).trans rfl
  have z3 : wc.cell? ⟨gs, 3, none⟩ = some (.int .u32 s.x) := (blk_cell hB.out.bs 3).trans rfl
  have z20 : wc.cell? ⟨gs, 20, none⟩ = some (.bool s.o) := (blk_cell hB.out.bs 20).trans rfl
  have z21 : wc.cell? ⟨gs, 21, none⟩ = some (.int .u32 s.r) := (blk_cell hB.out.bs 21).trans rfl
  have x1 : wc.cell? ⟨gx, 1, none⟩ = some (.int .u8 jt) := (blk_cell hB.out.bx 1).trans rfl
  have x2 : wc.cell? ⟨gx, 2, none⟩ = some (.int .u8 jf) := (blk_cell hB.out.bx 2).trans rfl
  have x3 : wc.cell? ⟨gx, 3, none⟩ = some (.int .u32 K) := (blk_cell hB.out.bx 3).trans rfl
  go_wp2_with (first | ((with_reducible refine gate_dst (N := 176) rfl ?_); refine wpList_load_row rfl 73 (.tmp 5) rfl gs rfl 73 (stA (wrap64 (t + 1)) (wrap64 (n + 1)) { s with a := (-s.a) % 4294967296 }) (0, 0) _ (show StB _ _ _ _ _ _ _ (stA (wrap64 (t + 1)) (wrap64 (n + 1)) { s with a := (-s.a) % 4294967296 }) _ from (hB.out).put 2 _ rfl).bs Try.underlying73 rfl (by kernel_rfl) ?_) | ((with_reducible refine gate_store (t := 73) (p := 6) rfl ?_); refine wpList_store_row rfl 73 (.tmp 6) (.tmp 176) rfl gr (stA (wrap64 (t + 1)) (wrap64 (n + 1)) { s with a := (-s.a) % 4294967296 }) rfl rfl 73 _ (show StB _ _ _ _ _ _ _ (stA (wrap64 (t + 1)) (wrap64 (n + 1)) { s with a := (-s.a) % 4294967296 }) _ from (hB.out).put 2 _ rfl).br (by kernel_rfl) rfl (stA_one _ _ _) ?_))
  refine bodyPost_ret (results_cell_row rfl _ _ gr 73 (stA (wrap64 (t + 1)) (wrap64 (n + 1)) { s with a := (-s.a) % 4294967296 }) (0, 0) _ rfl (setRow_heap _ _ _ _ _ _ (show StB _ _ _ _ _ _ _ (stA (wrap64 (t + 1)) (wrap64 (n + 1)) { s with a := (-s.a) % 4294967296 }) _ from (hB.out).put 2 _ rfl).br) Try.underlying73 rfl (by kernel_rfl)) rfl ?_
  exact ⟨rfl, step_setRow (show StB _ _ _ _ _ _ _ (stA (wrap64 (t + 1)) (wrap64 (n + 1)) { s with a := (-s.a) % 4294967296 }) _ from (hB.out).put 2 _ rfl).below (by first | exact hB2.out.gr0 | exact hB.out.gr0) _⟩
set_option maxHeartbeats 8000000 in
set_option maxRecDepth 100000 in
theorem fairleadref06_Step.c5 (k : Nat) (A0 : Option Addr) (c0 : Nat) (l0 : List S53) (d0 d1 d2 d3 d4 d5 d6 d7 d8 t n jt jf K : Int) (s : StS) (w : World) (hr0 : Kd.C k53 w A0 l0.length l0) (hc0 : l0.length ≤ c0) (ht : 0 ≤ t) (ht1 : t < l0.length) (hx : rd_T53 l0 t = ⟨5, jt, jf, K⟩) :
  Calls Try.prog 35 #[.slice A0 l0.length c0, .agg #[.int .u32 d0, .int .u32 d1, .int .u64 d2, .int .u64 d3, .int .u64 d4, .int .u64 d5, .int .u64 d6, .int .u64 d7, .int .u64 d8], .agg (stA t n s)] w fun e w' => e = .returned (.agg (stA (wrap64 (wrap64 (t + 1) + wrap64 K)) (wrap64 (n + 1)) s)) ∧ Below w.heap.size w w' := by
  have hu27_ := Try.underlying27
  have hu56_ := Try.underlying73
  have hu37_ := Try.underlying53
  have HR0 := Aside0.mk hr0
  have HC0 := Aside0.mk hc0
  clear hr0 hc0
  go_enter Try.func35, Try.ntmps35
  go_upto_region 6 with (first | ((with_reducible refine gate_dst (N := 4) rfl ?_); refine box_event ?hg (N := 4) ?hd (cs := #[.int .u32 d0, .int .u32 d1, .int .u64 d2, .int .u64 d3, .int .u64 d4, .int .u64 d5, .int .u64 d6, .int .u64 d7, .int .u64 d8]) (t := 27) ?hr ?_; (case hd => rfl); (case hg => rfl); (case hr => first | (go_simp; done) | (go_simp; rfl)); intro gd hg w1 hbox hb; have GD := Aside0.mk hg; have B1 := Aside0.mk hbox; have W1 := Aside0.mk hb; clear hg hbox hb) | ((with_reducible refine gate_dst (N := 5) rfl ?_); refine box_event ?hg (N := 5) ?hd (cs := #[.int .i64 (t), .int .i64 (n), .int .u32 s.a, .int .u32 s.x, .int .u32 (s.C 0), .int .u32 (s.C 1), .int .u32 (s.C 2), .int .u32 (s.C 3), .int .u32 (s.C 4), .int .u32 (s.C 5), .int .u32 (s.C 6), .int .u32 (s.C 7), .int .u32 (s.C 8), .int .u32 (s.C 9), .int .u32 (s.C 10), .int .u32 (s.C 11), .int .u32 (s.C 12), .int .u32 (s.C 13), .int .u32 (s.C 14), .int .u32 (s.C 15), .bool s.o, .int .u32 s.r]) (t := 73) ?hr ?_; (case hd => rfl); (case hg => rfl); (case hr => first | (go_simp; done) | (go_simp; rfl)); intro gs hg w2 hbox hb; have GS := Aside0.mk hg; have B2 := Aside0.mk hbox; have W2 := Aside0.mk hb; clear hg hbox hb) | ((with_reducible refine gate_dst (N := 6) rfl ?_); refine box_event ?hg (N := 6) ?hd (cs := #[.int .i64 0, .int .i64 0, .int .u32 0, .int .u32 0, .int .u32 0, .int .u32 0, .int .u32 0, .int .u32 0, .int .u32 0, .int .u32 0, .int .u32 0, .int .u32 0, .int .u32 0, .int .u32 0, .int .u32 0, .int .u32 0, .int .u32 0, .int .u32 0, .int .u32 0, .int .u32 0, .bool false, .int .u32 0]) (t := 73) ?hr ?_; (case hd => rfl); (case hg => rfl); (case hr => first | (go_simp; done) | (go_simp; rfl)); intro gr hg w3 hbox hb; have GR := Aside0.mk hg; have B3 := Aside0.mk hbox; have W3 := Aside0.mk hb; clear hg hbox hb; have HS := Aside0.mk (blk_below B2.out W3.out); have hq0 := (blk_cell HS.out 0).trans rfl; obtain ⟨ad, rfl, hx0, hx1, hx2, hx3⟩ := at_T53 HR0.out t ht ht1; rw [hx] at hx0 hx1 hx2 hx3; simp only at hx0 hx1 hx2 hx3; have WW := Aside0.mk (below_step (below_step (below_step (Below.refl w.heap.size w) W1.out) W2.out) W3.out); replace hx0 := (WW.out.cell (World.block_lt_of_cell? w _ hx0)).trans hx0; replace hx1 := (WW.out.cell (World.block_lt_of_cell? w _ hx1)).trans hx1; replace hx2 := (WW.out.cell (World.block_lt_of_cell? w _ hx2)).trans hx2; replace hx3 := (WW.out.cell (World.block_lt_of_cell? w _ hx3)).trans hx3; have p0 := decide_eq_true ht; have p1 := decide_eq_true ht1) | ((with_reducible refine gate_dst (N := 7) rfl ?_); refine box_event ?hg (N := 7) ?hd (cs := #[.int .u16 0, .int .u8 0, .int .u8 0, .int .u32 0]) (t := 53) ?hr ?_; (case hd => rfl); (case hg => rfl); (case hr => first | (go_simp; done) | (go_simp; rfl)); intro gx hg w4 hbox hb; have GX := Aside0.mk hg; have B4 := Aside0.mk hbox; have W4 := Aside0.mk hb; clear hg hbox hb; have hne : gs ≠ gx := (by rw [GX.out]; exact Nat.ne_of_lt (blk_lt HS.out)); have HS := Aside0.mk (blk_below HS.out W4.out); have hq0 := (blk_cell HS.out 0).trans rfl; have hq1 := (blk_cell HS.out 1).trans rfl; have hf0 := blk_frozen HS.out 0; have hf1 := blk_frozen HS.out 1; have hf2 := blk_frozen B4.out 0; have hf3 := blk_frozen B4.out 1; have hf4 := blk_frozen B4.out 2; have hf5 := blk_frozen B4.out 3; have hg0 := (blk_cell B4.out 0).trans rfl; have hg1 := (blk_cell B4.out 1).trans rfl; have hg2 := (blk_cell B4.out 2).trans rfl; have hg3 := (blk_cell B4.out 3).trans rfl))
  (try simp only [Act.put, List.setIfInBounds_toArray, List.set_cons_zero, List.set_cons_succ])
  refine step_gen (R := fun wc => StB w wc gd gs gr gx #[.int .u32 d0, .int .u32 d1, .int .u64 d2, .int .u64 d3, .int .u64 d4, .int .u64 d5, .int .u64 d6, .int .u64 d7, .int .u64 d8] (stA (wrap64 (t + 1)) (wrap64 (n + 1)) s) _) (step_made B1.out B2.out B3.out B4.out W1.out W2.out W3.out W4.out GD.out GS.out GR.out GX.out _ jt jf K) (fun wc hB0 => ?_)
  have hB := Aside0.mk hB0
  clear hB0
  clear hx0 hx1 hx2 hx3 hq0 hq1 hf0 hf1 hf2 hf3 hf4 hf5 hg0 hg1 hg2 hg3 hne p0 p1 B1 B2 B3 B4 W1 W2 W3 W4 GD GS GR GX HS WW HR0 HC0
  have n1 := hB.out.sd
  have n2 := hB.out.sr
  have n3 := hB.out.sx
  have n4 := hB.out.sr.symm
  have n5 := hB.out.sx.symm
  have fs := fun j => blk_frozen hB.out.bs j
  have z0 : wc.cell? ⟨gs, 0, none⟩ = some (.int .i64 (wrap64 (t + 1))) := (blk_cell hB.out.bs 0).trans rfl
  have z2 : wc.cell? ⟨gs, 2, none⟩ = some (.int .u32 s.a) := (blk_cell hB.out.bs 2).trans rfl
  have z3 : wc.cell? ⟨gs, 3, none⟩ = some (.int .u32 s.x) := (blk_cell hB.out.bs 3).trans rfl
  have z20 : wc.cell? ⟨gs, 20, none⟩ = some (.bool s.o) := (blk_cell hB.out.bs 20).trans rfl
  have z21 : wc.cell? ⟨gs, 21, none⟩ = some (.int .u32 s.r) := (blk_cell hB.out.bs 21).trans rfl
  have x1 : wc.cell? ⟨gx, 1, none⟩ = some (.int .u8 jt) := (blk_cell hB.out.bx 1).trans rfl
  have x2 : wc.cell? ⟨gx, 2, none⟩ = some (.int .u8 jf) := (blk_cell hB.out.bx 2).trans rfl
  have x3 : wc.cell? ⟨gx, 3, none⟩ = some (.int .u32 K) := (blk_cell hB.out.bx 3).trans rfl
  go_wp2_with (first | ((with_reducible refine gate_dst (N := 176) rfl ?_); refine wpList_load_row rfl 73 (.tmp 5) rfl gs rfl 73 (stA (wrap64 (wrap64 (t + 1) + wrap64 K)) (wrap64 (n + 1)) s) (0, 0) _ (show StB _ _ _ _ _ _ _ (stA (wrap64 (wrap64 (t + 1) + wrap64 K)) (wrap64 (n + 1)) s) _ from (hB.out).put 0 _ rfl).bs Try.underlying73 rfl (by kernel_rfl) ?_) | ((with_reducible refine gate_store (t := 73) (p := 6) rfl ?_); refine wpList_store_row rfl 73 (.tmp 6) (.tmp 176) rfl gr (stA (wrap64 (wrap64 (t + 1) + wrap64 K)) (wrap64 (n + 1)) s) rfl rfl 73 _ (show StB _ _ _ _ _ _ _ (stA (wrap64 (wrap64 (t + 1) + wrap64 K)) (wrap64 (n + 1)) s) _ from (hB.out).put 0 _ rfl).br (by kernel_rfl) rfl (stA_one _ _ _) ?_))
  refine bodyPost_ret (results_cell_row rfl _ _ gr 73 (stA (wrap64 (wrap64 (t + 1) + wrap64 K)) (wrap64 (n + 1)) s) (0, 0) _ rfl (setRow_heap _ _ _ _ _ _ (show StB _ _ _ _ _ _ _ (stA (wrap64 (wrap64 (t + 1) + wrap64 K)) (wrap64 (n + 1)) s) _ from (hB.out).put 0 _ rfl).br) Try.underlying73 rfl (by kernel_rfl)) rfl ?_
  exact ⟨rfl, step_setRow (show StB _ _ _ _ _ _ _ (stA (wrap64 (wrap64 (t + 1) + wrap64 K)) (wrap64 (n + 1)) s) _ from (hB.out).put 0 _ rfl).below (by first | exact hB2.out.gr0 | exact hB.out.gr0) _⟩
set_option maxHeartbeats 8000000 in
set_option maxRecDepth 100000 in
theorem fairleadref06_Step.c6 (k : Nat) (A0 : Option Addr) (c0 : Nat) (l0 : List S53) (d0 d1 d2 d3 d4 d5 d6 d7 d8 t n jt jf K : Int) (s : StS) (w : World) (hr0 : Kd.C k53 w A0 l0.length l0) (hc0 : l0.length ≤ c0) (ht : 0 ≤ t) (ht1 : t < l0.length) (hx : rd_T53 l0 t = ⟨6, jt, jf, K⟩) :
  Calls Try.prog 35 #[.slice A0 l0.length c0, .agg #[.int .u32 d0, .int .u32 d1, .int .u64 d2, .int .u64 d3, .int .u64 d4, .int .u64 d5, .int .u64 d6, .int .u64 d7, .int .u64 d8], .agg (stA t n s)] w fun e w' => e = .returned (.agg (stA (wrap64 (t + 1)) (wrap64 (n + 1)) { s with o := true, r := K })) ∧ Below w.heap.size w w' := by
  have hu27_ := Try.underlying27
  have hu56_ := Try.underlying73
  have hu37_ := Try.underlying53
  have HR0 := Aside0.mk hr0
  have HC0 := Aside0.mk hc0
  clear hr0 hc0
  go_enter Try.func35, Try.ntmps35
  go_upto_region 6 with (first | ((with_reducible refine gate_dst (N := 4) rfl ?_); refine box_event ?hg (N := 4) ?hd (cs := #[.int .u32 d0, .int .u32 d1, .int .u64 d2, .int .u64 d3, .int .u64 d4, .int .u64 d5, .int .u64 d6, .int .u64 d7, .int .u64 d8]) (t := 27) ?hr ?_; (case hd => rfl); (case hg => rfl); (case hr => first | (go_simp; done) | (go_simp; rfl)); intro gd hg w1 hbox hb; have GD := Aside0.mk hg; have B1 := Aside0.mk hbox; have W1 := Aside0.mk hb; clear hg hbox hb) | ((with_reducible refine gate_dst (N := 5) rfl ?_); refine box_event ?hg (N := 5) ?hd (cs := #[.int .i64 (t), .int .i64 (n), .int .u32 s.a, .int .u32 s.x, .int .u32 (s.C 0), .int .u32 (s.C 1), .int .u32 (s.C 2), .int .u32 (s.C 3), .int .u32 (s.C 4), .int .u32 (s.C 5), .int .u32 (s.C 6), .int .u32 (s.C 7), .int .u32 (s.C 8), .int .u32 (s.C 9), .int .u32 (s.C 10), .int .u32 (s.C 11), .int .u32 (s.C 12), .int .u32 (s.C 13), .int .u32 (s.C 14), .int .u32 (s.C 15), .bool s.o, .int .u32 s.r]) (t := 73) ?hr ?_; (case hd => rfl); (case hg => rfl); (case hr => first | (go_simp; done) | (go_simp; rfl)); intro gs hg w2 hbox hb; have GS := Aside0.mk hg; have B2 := Aside0.mk hbox; have W2 := Aside0.mk hb; clear hg hbox hb) | ((with_reducible refine gate_dst (N := 6) rfl ?_); refine box_event ?hg (N := 6) ?hd (cs := #[.int .i64 0, .int .i64 0, .int .u32 0, .int .u32 0, .int .u32 0, .int .u32 0, .int .u32 0, .int .u32 0, .int .u32 0, .int .u32 0, .int .u32 0, .int .u32 0, .int .u32 0, .int .u32 0, .int .u32 0, .int .u32 0, .int .u32 0, .int .u32 0, .int .u32 0, .int .u32 0, .bool false, .int .u32 0]) (t := 73) ?hr ?_; (case hd => rfl); (case hg => rfl); (case hr => first | (go_simp; done) | (go_simp; rfl)); intro gr hg w3 hbox hb; have GR := Aside0.mk hg; have B3 := Aside0.mk hbox; have W3 := Aside0.mk hb; clear hg hbox hb; have HS := Aside0.mk (blk_below B2.out W3.out); have hq0 := (blk_cell HS.out 0).trans rfl; obtain ⟨ad, rfl, hx0, hx1, hx2, hx3⟩ := at_T53 HR0.out t ht ht1; rw [hx] at hx0 hx1 hx2 hx3; simp only at hx0 hx1 hx2 hx3; have WW := Aside0.mk (below_step (below_step (below_step (Below.refl w.heap.size w) W1.out) W2.out) W3.out); replace hx0 := (WW.out.cell (World.block_lt_of_cell? w _ hx0)).trans hx0; replace hx1 := (WW.out.cell (World.block_lt_of_cell? w _ hx1)).trans hx1; replace hx2 := (WW.out.cell (World.block_lt_of_cell? w _ hx2)).trans hx2; replace hx3 := (WW.out.cell (World.block_lt_of_cell? w _ hx3)).trans hx3; have p0 := decide_eq_true ht; have p1 := decide_eq_true ht1) | ((with_reducible refine gate_dst (N := 7) rfl ?_); refine box_event ?hg (N := 7) ?hd (cs := #[.int .u16 0, .int .u8 0, .int .u8 0, .int .u32 0]) (t := 53) ?hr ?_; (case hd => rfl); (case hg => rfl); (case hr => first | (go_simp; done) | (go_simp; rfl)); intro gx hg w4 hbox hb; have GX := Aside0.mk hg; have B4 := Aside0.mk hbox; have W4 := Aside0.mk hb; clear hg hbox hb; have hne : gs ≠ gx := (by rw [GX.out]; exact Nat.ne_of_lt (blk_lt HS.out)); have HS := Aside0.mk (blk_below HS.out W4.out); have hq0 := (blk_cell HS.out 0).trans rfl; have hq1 := (blk_cell HS.out 1).trans rfl; have hf0 := blk_frozen HS.out 0; have hf1 := blk_frozen HS.out 1; have hf2 := blk_frozen B4.out 0; have hf3 := blk_frozen B4.out 1; have hf4 := blk_frozen B4.out 2; have hf5 := blk_frozen B4.out 3; have hg0 := (blk_cell B4.out 0).trans rfl; have hg1 := (blk_cell B4.out 1).trans rfl; have hg2 := (blk_cell B4.out 2).trans rfl; have hg3 := (blk_cell B4.out 3).trans rfl))
  (try simp only [Act.put, List.setIfInBounds_toArray, List.set_cons_zero, List.set_cons_succ])
  refine step_gen (R := fun wc => StB w wc gd gs gr gx #[.int .u32 d0, .int .u32 d1, .int .u64 d2, .int .u64 d3, .int .u64 d4, .int .u64 d5, .int .u64 d6, .int .u64 d7, .int .u64 d8] (stA (wrap64 (t + 1)) (wrap64 (n + 1)) s) _) (step_made B1.out B2.out B3.out B4.out W1.out W2.out W3.out W4.out GD.out GS.out GR.out GX.out _ jt jf K) (fun wc hB0 => ?_)
  have hB := Aside0.mk hB0
  clear hB0
  clear hx0 hx1 hx2 hx3 hq0 hq1 hf0 hf1 hf2 hf3 hf4 hf5 hg0 hg1 hg2 hg3 hne p0 p1 B1 B2 B3 B4 W1 W2 W3 W4 GD GS GR GX HS WW HR0 HC0
  have n1 := hB.out.sd
  have n2 := hB.out.sr
  have n3 := hB.out.sx
  have n4 := hB.out.sr.symm
  have n5 := hB.out.sx.symm
  have fs := fun j => blk_frozen hB.out.bs j
  have z0 : wc.cell? ⟨gs, 0, none⟩ = some (.int .i64 (wrap64 (t + 1))) := (blk_cell hB.out.bs 0).trans rfl
  have z2 : wc.cell? ⟨gs, 2, none⟩ = some (.int .u32 s.a) := (blk_cell hB.out.bs 2).trans rfl
  have z3 : wc.cell? ⟨gs, 3, none⟩ = some (.int .u32 s.x) := (blk_cell hB.out.bs 3).trans rfl
  have z20 : wc.cell? ⟨gs, 20, none⟩ = some (.bool s.o) := (blk_cell hB.out.bs 20).trans rfl
  have z21 : wc.cell? ⟨gs, 21, none⟩ = some (.int .u32 s.r) := (blk_cell hB.out.bs 21).trans rfl
  have x1 : wc.cell? ⟨gx, 1, none⟩ = some (.int .u8 jt) := (blk_cell hB.out.bx 1).trans rfl
  have x2 : wc.cell? ⟨gx, 2, none⟩ = some (.int .u8 jf) := (blk_cell hB.out.bx 2).trans rfl
  have x3 : wc.cell? ⟨gx, 3, none⟩ = some (.int .u32 K) := (blk_cell hB.out.bx 3).trans rfl
  go_wp2_with (first | ((with_reducible refine gate_dst (N := 176) rfl ?_); refine wpList_load_row rfl 73 (.tmp 5) rfl gs rfl 73 (stA (wrap64 (t + 1)) (wrap64 (n + 1)) { s with o := true, r := K }) (0, 0) _ (show StB _ _ _ _ _ _ _ (stA (wrap64 (t + 1)) (wrap64 (n + 1)) { s with o := true, r := K }) _ from ((show StB _ _ _ _ _ _ _ (stA (wrap64 (t + 1)) (wrap64 (n + 1)) { s with o := true }) _ from hB.out.put 20 (.bool true) rfl).put 21 (.int .u32 K) rfl)).bs Try.underlying73 rfl (by kernel_rfl) ?_) | ((with_reducible refine gate_store (t := 73) (p := 6) rfl ?_); refine wpList_store_row rfl 73 (.tmp 6) (.tmp 176) rfl gr (stA (wrap64 (t + 1)) (wrap64 (n + 1)) { s with o := true, r := K }) rfl rfl 73 _ (show StB _ _ _ _ _ _ _ (stA (wrap64 (t + 1)) (wrap64 (n + 1)) { s with o := true, r := K }) _ from ((show StB _ _ _ _ _ _ _ (stA (wrap64 (t + 1)) (wrap64 (n + 1)) { s with o := true }) _ from hB.out.put 20 (.bool true) rfl).put 21 (.int .u32 K) rfl)).br (by kernel_rfl) rfl (stA_one _ _ _) ?_))
  refine bodyPost_ret (results_cell_row rfl _ _ gr 73 (stA (wrap64 (t + 1)) (wrap64 (n + 1)) { s with o := true, r := K }) (0, 0) _ rfl (setRow_heap _ _ _ _ _ _ (show StB _ _ _ _ _ _ _ (stA (wrap64 (t + 1)) (wrap64 (n + 1)) { s with o := true, r := K }) _ from ((show StB _ _ _ _ _ _ _ (stA (wrap64 (t + 1)) (wrap64 (n + 1)) { s with o := true }) _ from hB.out.put 20 (.bool true) rfl).put 21 (.int .u32 K) rfl)).br) Try.underlying73 rfl (by kernel_rfl)) rfl ?_
  exact ⟨rfl, step_setRow (show StB _ _ _ _ _ _ _ (stA (wrap64 (t + 1)) (wrap64 (n + 1)) { s with o := true, r := K }) _ from ((show StB _ _ _ _ _ _ _ (stA (wrap64 (t + 1)) (wrap64 (n + 1)) { s with o := true }) _ from hB.out.put 20 (.bool true) rfl).put 21 (.int .u32 K) rfl)).below (by first | exact hB2.out.gr0 | exact hB.out.gr0) _⟩
set_option maxHeartbeats 8000000 in
set_option maxRecDepth 100000 in
theorem fairleadref06_Step.c22 (k : Nat) (A0 : Option Addr) (c0 : Nat) (l0 : List S53) (d0 d1 d2 d3 d4 d5 d6 d7 d8 t n jt jf K : Int) (s : StS) (w : World) (hr0 : Kd.C k53 w A0 l0.length l0) (hc0 : l0.length ≤ c0) (ht : 0 ≤ t) (ht1 : t < l0.length) (hx : rd_T53 l0 t = ⟨22, jt, jf, K⟩) :
  Calls Try.prog 35 #[.slice A0 l0.length c0, .agg #[.int .u32 d0, .int .u32 d1, .int .u64 d2, .int .u64 d3, .int .u64 d4, .int .u64 d5, .int .u64 d6, .int .u64 d7, .int .u64 d8], .agg (stA t n s)] w fun e w' => e = .returned (.agg (stA (wrap64 (t + 1)) (wrap64 (n + 1)) { s with o := true, r := s.a })) ∧ Below w.heap.size w w' := by
  have hu27_ := Try.underlying27
  have hu56_ := Try.underlying73
  have hu37_ := Try.underlying53
  have HR0 := Aside0.mk hr0
  have HC0 := Aside0.mk hc0
  clear hr0 hc0
  go_enter Try.func35, Try.ntmps35
  go_upto_region 6 with (first | ((with_reducible refine gate_dst (N := 4) rfl ?_); refine box_event ?hg (N := 4) ?hd (cs := #[.int .u32 d0, .int .u32 d1, .int .u64 d2, .int .u64 d3, .int .u64 d4, .int .u64 d5, .int .u64 d6, .int .u64 d7, .int .u64 d8]) (t := 27) ?hr ?_; (case hd => rfl); (case hg => rfl); (case hr => first | (go_simp; done) | (go_simp; rfl)); intro gd hg w1 hbox hb; have GD := Aside0.mk hg; have B1 := Aside0.mk hbox; have W1 := Aside0.mk hb; clear hg hbox hb) | ((with_reducible refine gate_dst (N := 5) rfl ?_); refine box_event ?hg (N := 5) ?hd (cs := #[.int .i64 (t), .int .i64 (n), .int .u32 s.a, .int .u32 s.x, .int .u32 (s.C 0), .int .u32 (s.C 1), .int .u32 (s.C 2), .int .u32 (s.C 3), .int .u32 (s.C 4), .int .u32 (s.C 5), .int .u32 (s.C 6), .int .u32 (s.C 7), .int .u32 (s.C 8), .int .u32 (s.C 9), .int .u32 (s.C 10), .int .u32 (s.C 11), .int .u32 (s.C 12), .int .u32 (s.C 13), .int .u32 (s.C 14), .int .u32 (s.C 15), .bool s.o, .int .u32 s.r]) (t := 73) ?hr ?_; (case hd => rfl); (case hg => rfl); (case hr => first | (go_simp; done) | (go_simp; rfl)); intro gs hg w2 hbox hb; have GS := Aside0.mk hg; have B2 := Aside0.mk hbox; have W2 := Aside0.mk hb; clear hg hbox hb) | ((with_reducible refine gate_dst (N := 6) rfl ?_); refine box_event ?hg (N := 6) ?hd (cs := #[.int .i64 0, .int .i64 0, .int .u32 0, .int .u32 0, .int .u32 0, .int .u32 0, .int .u32 0, .int .u32 0, .int .u32 0, .int .u32 0, .int .u32 0, .int .u32 0, .int .u32 0, .int .u32 0, .int .u32 0, .int .u32 0, .int .u32 0, .int .u32 0, .int .u32 0, .int .u32 0, .bool false, .int .u32 0]) (t := 73) ?hr ?_; (case hd => rfl); (case hg => rfl); (case hr => first | (go_simp; done) | (go_simp; rfl)); intro gr hg w3 hbox hb; have GR := Aside0.mk hg; have B3 := Aside0.mk hbox; have W3 := Aside0.mk hb; clear hg hbox hb; have HS := Aside0.mk (blk_below B2.out W3.out); have hq0 := (blk_cell HS.out 0).trans rfl; obtain ⟨ad, rfl, hx0, hx1, hx2, hx3⟩ := at_T53 HR0.out t ht ht1; rw [hx] at hx0 hx1 hx2 hx3; simp only at hx0 hx1 hx2 hx3; have WW := Aside0.mk (below_step (below_step (below_step (Below.refl w.heap.size w) W1.out) W2.out) W3.out); replace hx0 := (WW.out.cell (World.block_lt_of_cell? w _ hx0)).trans hx0; replace hx1 := (WW.out.cell (World.block_lt_of_cell? w _ hx1)).trans hx1; replace hx2 := (WW.out.cell (World.block_lt_of_cell? w _ hx2)).trans hx2; replace hx3 := (WW.out.cell (World.block_lt_of_cell? w _ hx3)).trans hx3; have p0 := decide_eq_true ht; have p1 := decide_eq_true ht1) | ((with_reducible refine gate_dst (N := 7) rfl ?_); refine box_event ?hg (N := 7) ?hd (cs := #[.int .u16 0, .int .u8 0, .int .u8 0, .int .u32 0]) (t := 53) ?hr ?_; (case hd => rfl); (case hg => rfl); (case hr => first | (go_simp; done) | (go_simp; rfl)); intro gx hg w4 hbox hb; have GX := Aside0.mk hg; have B4 := Aside0.mk hbox; have W4 := Aside0.mk hb; clear hg hbox hb; have hne : gs ≠ gx := (by rw [GX.out]; exact Nat.ne_of_lt (blk_lt HS.out)); have HS := Aside0.mk (blk_below HS.out W4.out); have hq0 := (blk_cell HS.out 0).trans rfl; have hq1 := (blk_cell HS.out 1).trans rfl; have hf0 := blk_frozen HS.out 0; have hf1 := blk_frozen HS.out 1; have hf2 := blk_frozen B4.out 0; have hf3 := blk_frozen B4.out 1; have hf4 := blk_frozen B4.out 2; have hf5 := blk_frozen B4.out 3; have hg0 := (blk_cell B4.out 0).trans rfl; have hg1 := (blk_cell B4.out 1).trans rfl; have hg2 := (blk_cell B4.out 2).trans rfl; have hg3 := (blk_cell B4.out 3).trans rfl))
  (try simp only [Act.put, List.setIfInBounds_toArray, List.set_cons_zero, List.set_cons_succ])
  refine step_gen (R := fun wc => StB w wc gd gs gr gx #[.int .u32 d0, .int .u32 d1, .int .u64 d2, .int .u64 d3, .int .u64 d4, .int .u64 d5, .int .u64 d6, .int .u64 d7, .int .u64 d8] (stA (wrap64 (t + 1)) (wrap64 (n + 1)) s) _) (step_made B1.out B2.out B3.out B4.out W1.out W2.out W3.out W4.out GD.out GS.out GR.out GX.out _ jt jf K) (fun wc hB0 => ?_)
  have hB := Aside0.mk hB0
  clear hB0
  clear hx0 hx1 hx2 hx3 hq0 hq1 hf0 hf1 hf2 hf3 hf4 hf5 hg0 hg1 hg2 hg3 hne p0 p1 B1 B2 B3 B4 W1 W2 W3 W4 GD GS GR GX HS WW HR0 HC0
  have n1 := hB.out.sd
  have n2 := hB.out.sr
  have n3 := hB.out.sx
  have n4 := hB.out.sr.symm
  have n5 := hB.out.sx.symm
  have fs := fun j => blk_frozen hB.out.bs j
  have z0 : wc.cell? ⟨gs, 0, none⟩ = some (.int .i64 (wrap64 (t + 1))) := (blk_cell hB.out.bs 0).trans rfl
  have z2 : wc.cell? ⟨gs, 2, none⟩ = some (.int .u32 s.a) := (blk_cell hB.out.bs 2).trans rfl
  have z3 : wc.cell? ⟨gs, 3, none⟩ = some (.int .u32 s.x) := (blk_cell hB.out.bs 3).trans rfl
  have z20 : wc.cell? ⟨gs, 20, none⟩ = some (.bool s.o) := (blk_cell hB.out.bs 20).trans rfl
  have z21 : wc.cell? ⟨gs, 21, none⟩ = some (.int .u32 s.r) := (blk_cell hB.out.bs 21).trans rfl
  have x1 : wc.cell? ⟨gx, 1, none⟩ = some (.int .u8 jt) := (blk_cell hB.out.bx 1).trans rfl
  have x2 : wc.cell? ⟨gx, 2, none⟩ = some (.int .u8 jf) := (blk_cell hB.out.bx 2).trans rfl
  have x3 : wc.cell? ⟨gx, 3, none⟩ = some (.int .u32 K) := (blk_cell hB.out.bx 3).trans rfl
  go_wp2_with (first | ((with_reducible refine gate_dst (N := 176) rfl ?_); refine wpList_load_row rfl 73 (.tmp 5) rfl gs rfl 73 (stA (wrap64 (t + 1)) (wrap64 (n + 1)) { s with o := true, r := s.a }) (0, 0) _ (show StB _ _ _ _ _ _ _ (stA (wrap64 (t + 1)) (wrap64 (n + 1)) { s with o := true, r := s.a }) _ from ((show StB _ _ _ _ _ _ _ (stA (wrap64 (t + 1)) (wrap64 (n + 1)) { s with o := true }) _ from hB.out.put 20 (.bool true) rfl).put 21 (.int .u32 s.a) rfl)).bs Try.underlying73 rfl (by kernel_rfl) ?_) | ((with_reducible refine gate_store (t := 73) (p := 6) rfl ?_); refine wpList_store_row rfl 73 (.tmp 6) (.tmp 176) rfl gr (stA (wrap64 (t + 1)) (wrap64 (n + 1)) { s with o := true, r := s.a }) rfl rfl 73 _ (show StB _ _ _ _ _ _ _ (stA (wrap64 (t + 1)) (wrap64 (n + 1)) { s with o := true, r := s.a }) _ from ((show StB _ _ _ _ _ _ _ (stA (wrap64 (t + 1)) (wrap64 (n + 1)) { s with o := true }) _ from hB.out.put 20 (.bool true) rfl).put 21 (.int .u32 s.a) rfl)).br (by kernel_rfl) rfl (stA_one _ _ _) ?_))
  refine bodyPost_ret (results_cell_row rfl _ _ gr 73 (stA (wrap64 (t + 1)) (wrap64 (n + 1)) { s with o := true, r := s.a }) (0, 0) _ rfl (setRow_heap _ _ _ _ _ _ (show StB _ _ _ _ _ _ _ (stA (wrap64 (t + 1)) (wrap64 (n + 1)) { s with o := true, r := s.a }) _ from ((show StB _ _ _ _ _ _ _ (stA (wrap64 (t + 1)) (wrap64 (n + 1)) { s with o := true }) _ from hB.out.put 20 (.bool true) rfl).put 21 (.int .u32 s.a) rfl)).br) Try.underlying73 rfl (by kernel_rfl)) rfl ?_
  exact ⟨rfl, step_setRow (show StB _ _ _ _ _ _ _ (stA (wrap64 (t + 1)) (wrap64 (n + 1)) { s with o := true, r := s.a }) _ from ((show StB _ _ _ _ _ _ _ (stA (wrap64 (t + 1)) (wrap64 (n + 1)) { s with o := true }) _ from hB.out.put 20 (.bool true) rfl).put 21 (.int .u32 s.a) rfl)).below (by first | exact hB2.out.gr0 | exact hB.out.gr0) _⟩
set_option maxHeartbeats 8000000 in
set_option maxRecDepth 100000 in
theorem fairleadref06_Step.c96 (k : Nat) (A0 : Option Addr) (c0 : Nat) (l0 : List S53) (d0 d1 d2 d3 d4 d5 d6 d7 d8 t n jt jf K : Int) (s : StS) (w : World) (hr0 : Kd.C k53 w A0 l0.length l0) (hc0 : l0.length ≤ c0) (ht : 0 ≤ t) (ht1 : t < l0.length) (hx : rd_T53 l0 t = ⟨96, jt, jf, K⟩) (hk0 : 0 ≤ K) (hk1 : K < 16) :
  Calls Try.prog 35 #[.slice A0 l0.length c0, .agg #[.int .u32 d0, .int .u32 d1, .int .u64 d2, .int .u64 d3, .int .u64 d4, .int .u64 d5, .int .u64 d6, .int .u64 d7, .int .u64 d8], .agg (stA t n s)] w fun e w' => e = .returned (.agg (stA (wrap64 (t + 1)) (wrap64 (n + 1)) { s with a := s.C K })) ∧ Below w.heap.size w w' := by
  have hu27_ := Try.underlying27
  have hu56_ := Try.underlying73
  have hu37_ := Try.underlying53
  have HR0 := Aside0.mk hr0
  have HC0 := Aside0.mk hc0
  clear hr0 hc0
  have hk0' := Aside0.mk hk0
  have hk1' := Aside0.mk hk1
  clear hk0 hk1
  go_enter Try.func35, Try.ntmps35
  go_upto_region 6 with (first | ((with_reducible refine gate_dst (N := 4) rfl ?_); refine box_event ?hg (N := 4) ?hd (cs := #[.int .u32 d0, .int .u32 d1, .int .u64 d2, .int .u64 d3, .int .u64 d4, .int .u64 d5, .int .u64 d6, .int .u64 d7, .int .u64 d8]) (t := 27) ?hr ?_; (case hd => rfl); (case hg => rfl); (case hr => first | (go_simp; done) | (go_simp; rfl)); intro gd hg w1 hbox hb; have GD := Aside0.mk hg; have B1 := Aside0.mk hbox; have W1 := Aside0.mk hb; clear hg hbox hb) | ((with_reducible refine gate_dst (N := 5) rfl ?_); refine box_event ?hg (N := 5) ?hd (cs := #[.int .i64 (t), .int .i64 (n), .int .u32 s.a, .int .u32 s.x, .int .u32 (s.C 0), .int .u32 (s.C 1), .int .u32 (s.C 2), .int .u32 (s.C 3), .int .u32 (s.C 4), .int .u32 (s.C 5), .int .u32 (s.C 6), .int .u32 (s.C 7), .int .u32 (s.C 8), .int .u32 (s.C 9), .int .u32 (s.C 10), .int .u32 (s.C 11), .int .u32 (s.C 12), .int .u32 (s.C 13), .int .u32 (s.C 14), .int .u32 (s.C 15), .bool s.o, .int .u32 s.r]) (t := 73) ?hr ?_; (case hd => rfl); (case hg => rfl); (case hr => first | (go_simp; done) | (go_simp; rfl)); intro gs hg w2 hbox hb; have GS := Aside0.mk hg; have B2 := Aside0.mk hbox; have W2 := Aside0.mk hb; clear hg hbox hb) | ((with_reducible refine gate_dst (N := 6) rfl ?_); refine box_event ?hg (N := 6) ?hd (cs := #[.int .i64 0, .int .i64 0, .int .u32 0, .int .u32 0, .int .u32 0, .int .u32 0, .int .u32 0, .int .u32 0, .int .u32 0, .int .u32 0, .int .u32 0, .int .u32 0, .int .u32 0, .int .u32 0, .int .u32 0, .int .u32 0, .int .u32 0, .int .u32 0, .int .u32 0, .int .u32 0, .bool false, .int .u32 0]) (t := 73) ?hr ?_; (case hd => rfl); (case hg => rfl); (case hr => first | (go_simp; done) | (go_simp; rfl)); intro gr hg w3 hbox hb; have GR := Aside0.mk hg; have B3 := Aside0.mk hbox; have W3 := Aside0.mk hb; clear hg hbox hb; have HS := Aside0.mk (blk_below B2.out W3.out); have hq0 := (blk_cell HS.out 0).trans rfl; obtain ⟨ad, rfl, hx0, hx1, hx2, hx3⟩ := at_T53 HR0.out t ht ht1; rw [hx] at hx0 hx1 hx2 hx3; simp only at hx0 hx1 hx2 hx3; have WW := Aside0.mk (below_step (below_step (below_step (Below.refl w.heap.size w) W1.out) W2.out) W3.out); replace hx0 := (WW.out.cell (World.block_lt_of_cell? w _ hx0)).trans hx0; replace hx1 := (WW.out.cell (World.block_lt_of_cell? w _ hx1)).trans hx1; replace hx2 := (WW.out.cell (World.block_lt_of_cell? w _ hx2)).trans hx2; replace hx3 := (WW.out.cell (World.block_lt_of_cell? w _ hx3)).trans hx3; have p0 := decide_eq_true ht; have p1 := decide_eq_true ht1) | ((with_reducible refine gate_dst (N := 7) rfl ?_); refine box_event ?hg (N := 7) ?hd (cs := #[.int .u16 0, .int .u8 0, .int .u8 0, .int .u32 0]) (t := 53) ?hr ?_; (case hd => rfl); (case hg => rfl); (case hr => first | (go_simp; done) | (go_simp; rfl)); intro gx hg w4 hbox hb; have GX := Aside0.mk hg; have B4 := Aside0.mk hbox; have W4 := Aside0.mk hb; clear hg hbox hb; have hne : gs ≠ gx := (by rw [GX.out]; exact Nat.ne_of_lt (blk_lt HS.out)); have HS := Aside0.mk (blk_below HS.out W4.out); have hq0 := (blk_cell HS.out 0).trans rfl; have hq1 := (blk_cell HS.out 1).trans rfl; have hf0 := blk_frozen HS.out 0; have hf1 := blk_frozen HS.out 1; have hf2 := blk_frozen B4.out 0; have hf3 := blk_frozen B4.out 1; have hf4 := blk_frozen B4.out 2; have hf5 := blk_frozen B4.out 3; have hg0 := (blk_cell B4.out 0).trans rfl; have hg1 := (blk_cell B4.out 1).trans rfl; have hg2 := (blk_cell B4.out 2).trans rfl; have hg3 := (blk_cell B4.out 3).trans rfl))
  (try simp only [Act.put, List.setIfInBounds_toArray, List.set_cons_zero, List.set_cons_succ])
  refine step_gen (R := fun wc => StB w wc gd gs gr gx #[.int .u32 d0, .int .u32 d1, .int .u64 d2, .int .u64 d3, .int .u64 d4, .int .u64 d5, .int .u64 d6, .int .u64 d7, .int .u64 d8] (stA (wrap64 (t + 1)) (wrap64 (n + 1)) s) _) (step_made B1.out B2.out B3.out B4.out W1.out W2.out W3.out W4.out GD.out GS.out GR.out GX.out _ jt jf K) (fun wc hB0 => ?_)
  have hB := Aside0.mk hB0
  clear hB0
  clear hx0 hx1 hx2 hx3 hq0 hq1 hf0 hf1 hf2 hf3 hf4 hf5 hg0 hg1 hg2 hg3 hne p0 p1 B1 B2 B3 B4 W1 W2 W3 W4 GD GS GR GX HS WW HR0 HC0
  have n1 := hB.out.sd
  have n2 := hB.out.sr
  have n3 := hB.out.sx
  have n4 := hB.out.sr.symm
  have n5 := hB.out.sx.symm
  have fs := fun j => blk_frozen hB.out.bs j
  have z0 : wc.cell? ⟨gs, 0, none⟩ = some (.int .i64 (wrap64 (t + 1))) := (blk_cell hB.out.bs 0).trans rfl
  have z2 : wc.cell? ⟨gs, 2, none⟩ = some (.int .u32 s.a) := (blk_cell hB.out.bs 2).trans rfl
  have z3 : wc.cell? ⟨gs, 3, none⟩ = some (.int .u32 s.x) := (blk_cell hB.out.bs 3).trans rfl
  have z20 : wc.cell? ⟨gs, 20, none⟩ = some (.bool s.o) := (blk_cell hB.out.bs 20).trans rfl
  have z21 : wc.cell? ⟨gs, 21, none⟩ = some (.int .u32 s.r) := (blk_cell hB.out.bs 21).trans rfl
  have x1 : wc.cell? ⟨gx, 1, none⟩ = some (.int .u8 jt) := (blk_cell hB.out.bx 1).trans rfl
  have x2 : wc.cell? ⟨gx, 2, none⟩ = some (.int .u8 jf) := (blk_cell hB.out.bx 2).trans rfl
  have x3 : wc.cell? ⟨gx, 3, none⟩ = some (.int .u32 K) := (blk_cell hB.out.bx 3).trans rfl
  have hs := Mine.blk_at hB.out.bs 4 .u32 [s.C 0, s.C 1, s.C 2, s.C 3, s.C 4, s.C 5, s.C 6, s.C 7, s.C 8, s.C 9, s.C 10, s.C 11, s.C 12, s.C 13, s.C 14, s.C 15] rfl K hk0'.out hk1'.out
  rw [step_rd s.C K hk0'.out hk1'.out] at hs
  have ps := eq_true hk0'.out
  have qs := eq_true hk1'.out
  go_wp2_with (first | ((with_reducible refine gate_dst (N := 176) rfl ?_); refine wpList_load_row rfl 73 (.tmp 5) rfl gs rfl 73 (stA (wrap64 (t + 1)) (wrap64 (n + 1)) { s with a := s.C K }) (0, 0) _ (show StB _ _ _ _ _ _ _ (stA (wrap64 (t + 1)) (wrap64 (n + 1)) { s with a := s.C K }) _ from (hB.out).put 2 _ rfl).bs Try.underlying73 rfl (by kernel_rfl) ?_) | ((with_reducible refine gate_store (t := 73) (p := 6) rfl ?_); refine wpList_store_row rfl 73 (.tmp 6) (.tmp 176) rfl gr (stA (wrap64 (t + 1)) (wrap64 (n + 1)) { s with a := s.C K }) rfl rfl 73 _ (show StB _ _ _ _ _ _ _ (stA (wrap64 (t + 1)) (wrap64 (n + 1)) { s with a := s.C K }) _ from (hB.out).put 2 _ rfl).br (by kernel_rfl) rfl (stA_one _ _ _) ?_))
  refine bodyPost_ret (results_cell_row rfl _ _ gr 73 (stA (wrap64 (t + 1)) (wrap64 (n + 1)) { s with a := s.C K }) (0, 0) _ rfl (setRow_heap _ _ _ _ _ _ (show StB _ _ _ _ _ _ _ (stA (wrap64 (t + 1)) (wrap64 (n + 1)) { s with a := s.C K }) _ from (hB.out).put 2 _ rfl).br) Try.underlying73 rfl (by kernel_rfl)) rfl ?_
  exact ⟨rfl, step_setRow (show StB _ _ _ _ _ _ _ (stA (wrap64 (t + 1)) (wrap64 (n + 1)) { s with a := s.C K }) _ from (hB.out).put 2 _ rfl).below (by first | exact hB2.out.gr0 | exact hB.out.gr0) _⟩
set_option maxHeartbeats 8000000 in
set_option maxRecDepth 100000 in
theorem fairleadref06_Step.c97 (k : Nat) (A0 : Option Addr) (c0 : Nat) (l0 : List S53) (d0 d1 d2 d3 d4 d5 d6 d7 d8 t n jt jf K : Int) (s : StS) (w : World) (hr0 : Kd.C k53 w A0 l0.length l0) (hc0 : l0.length ≤ c0) (ht : 0 ≤ t) (ht1 : t < l0.length) (hx : rd_T53 l0 t = ⟨97, jt, jf, K⟩) (hk0 : 0 ≤ K) (hk1 : K < 16) :
  Calls Try.prog 35 #[.slice A0 l0.length c0, .agg #[.int .u32 d0, .int .u32 d1, .int .u64 d2, .int .u64 d3, .int .u64 d4, .int .u64 d5, .int .u64 d6, .int .u64 d7, .int .u64 d8], .agg (stA t n s)] w fun e w' => e = .returned (.agg (stA (wrap64 (t + 1)) (wrap64 (n + 1)) { s with x := s.C K })) ∧ Below w.heap.size w w' := by
  have hu27_ := Try.underlying27
  have hu56_ := Try.underlying73
  have hu37_ := Try.underlying53
  have HR0 := Aside0.mk hr0
  have HC0 := Aside0.mk hc0
  clear hr0 hc0
  have hk0' := Aside0.mk hk0
  have hk1' := Aside0.mk hk1
  clear hk0 hk1
  go_enter Try.func35, Try.ntmps35
  go_upto_region 6 with (first | ((with_reducible refine gate_dst (N := 4) rfl ?_); refine box_event ?hg (N := 4) ?hd (cs := #[.int .u32 d0, .int .u32 d1, .int .u64 d2, .int .u64 d3, .int .u64 d4, .int .u64 d5, .int .u64 d6, .int .u64 d7, .int .u64 d8]) (t := 27) ?hr ?_; (case hd => rfl); (case hg => rfl); (case hr => first | (go_simp; done) | (go_simp; rfl)); intro gd hg w1 hbox hb; have GD := Aside0.mk hg; have B1 := Aside0.mk hbox; have W1 := Aside0.mk hb; clear hg hbox hb) | ((with_reducible refine gate_dst (N := 5) rfl ?_); refine box_event ?hg (N := 5) ?hd (cs := #[.int .i64 (t), .int .i64 (n), .int .u32 s.a, .int .u32 s.x, .int .u32 (s.C 0), .int .u32 (s.C 1), .int .u32 (s.C 2), .int .u32 (s.C 3), .int .u32 (s.C 4), .int .u32 (s.C 5), .int .u32 (s.C 6), .int .u32 (s.C 7), .int .u32 (s.C 8), .int .u32 (s.C 9), .int .u32 (s.C 10), .int .u32 (s.C 11), .int .u32 (s.C 12), .int .u32 (s.C 13), .int .u32 (s.C 14), .int .u32 (s.C 15), .bool s.o, .int .u32 s.r]) (t := 73) ?hr ?_; (case hd => rfl); (case hg => rfl); (case hr => first | (go_simp; done) | (go_simp; rfl)); intro gs hg w2 hbox hb; have GS := Aside0.mk hg; have B2 := Aside0.mk hbox; have W2 := Aside0.mk hb; clear hg hbox hb) | ((with_reducible refine gate_dst (N := 6) rfl ?_); refine box_event ?hg (N := 6) ?hd (cs := #[.int .i64 0, .int .i64 0, .int .u32 0, .int .u32 0, .int .u32 0, .int .u32 0, .int .u32 0, .int .u32 0, .int .u32 0, .int .u32 0, .int .u32 0, .int .u32 0, .int .u32 0, .int .u32 0, .int .u32 0, .int .u32 0, .int .u32 0, .int .u32 0, .int .u32 0, .int .u32 0, .bool false, .int .u32 0]) (t := 73) ?hr ?_; (case hd => rfl); (case hg => rfl); (case hr => first | (go_simp; done) | (go_simp; rfl)); intro gr hg w3 hbox hb; have GR := Aside0.mk hg; have B3 := Aside0.mk hbox; have W3 := Aside0.mk hb; clear hg hbox hb; have HS := Aside0.mk (blk_below B2.out W3.out); have hq0 := (blk_cell HS.out 0).trans rfl; obtain ⟨ad, rfl, hx0, hx1, hx2, hx3⟩ := at_T53 HR0.out t ht ht1; rw [hx] at hx0 hx1 hx2 hx3; simp only at hx0 hx1 hx2 hx3; have WW := Aside0.mk (below_step (below_step (below_step (Below.refl w.heap.size w) W1.out) W2.out) W3.out); replace hx0 := (WW.out.cell (World.block_lt_of_cell? w _ hx0)).trans hx0; replace hx1 := (WW.out.cell (World.block_lt_of_cell? w _ hx1)).trans hx1; replace hx2 := (WW.out.cell (World.block_lt_of_cell? w _ hx2)).trans hx2; replace hx3 := (WW.out.cell (World.block_lt_of_cell? w _ hx3)).trans hx3; have p0 := decide_eq_true ht; have p1 := decide_eq_true ht1) | ((with_reducible refine gate_dst (N := 7) rfl ?_); refine box_event ?hg (N := 7) ?hd (cs := #[.int .u16 0, .int .u8 0, .int .u8 0, .int .u32 0]) (t := 53) ?hr ?_; (case hd => rfl); (case hg => rfl); (case hr => first | (go_simp; done) | (go_simp; rfl)); intro gx hg w4 hbox hb; have GX := Aside0.mk hg; have B4 := Aside0.mk hbox; have W4 := Aside0.mk hb; clear hg hbox hb; have hne : gs ≠ gx := (by rw [GX.out]; exact Nat.ne_of_lt (blk_lt HS.out)); have HS := Aside0.mk (blk_below HS.out W4.out); have hq0 := (blk_cell HS.out 0).trans rfl; have hq1 := (blk_cell HS.out 1).trans rfl; have hf0 := blk_frozen HS.out 0; have hf1 := blk_frozen HS.out 1; have hf2 := blk_frozen B4.out 0; have hf3 := blk_frozen B4.out 1; have hf4 := blk_frozen B4.out 2; have hf5 := blk_frozen B4.out 3; have hg0 := (blk_cell B4.out 0).trans rfl; have hg1 := (blk_cell B4.out 1).trans rfl; have hg2 := (blk_cell B4.out 2).trans rfl; have hg3 := (blk_cell B4.out 3).trans rfl))
  (try simp only [Act.put, List.setIfInBounds_toArray, List.set_cons_zero, List.set_cons_succ])
  refine step_gen (R := fun wc => StB w wc gd gs gr gx #[.int .u32 d0, .int .u32 d1, .int .u64 d2, .int .u64 d3, .int .u64 d4, .int .u64 d5, .int .u64 d6, .int .u64 d7, .int .u64 d8] (stA (wrap64 (t + 1)) (wrap64 (n + 1)) s) _) (step_made B1.out B2.out B3.out B4.out W1.out W2.out W3.out W4.out GD.out GS.out GR.out GX.out _ jt jf K) (fun wc hB0 => ?_)
  have hB := Aside0.mk hB0
  clear hB0
  clear hx0 hx1 hx2 hx3 hq0 hq1 hf0 hf1 hf2 hf3 hf4 hf5 hg0 hg1 hg2 hg3 hne p0 p1 B1 B2 B3 B4 W1 W2 W3 W4 GD GS GR GX HS WW HR0 HC0
  have n1 := hB.out.sd
  have n2 := hB.out.sr
  have n3 := hB.out.sx
  have n4 := hB.out.sr.symm
  have n5 := hB.out.sx.symm
  have fs := fun j => blk_frozen hB.out.bs j
  have z0 : wc.cell? ⟨gs, 0, none⟩ = some (.int .i64 (wrap64 (t + 1))) := (blk_cell hB.out.bs 0).trans rfl
  have z2 : wc.cell? ⟨gs, 2, none⟩ = some (.int .u32 s.a) := (blk_cell hB.out.bs 2).trans rfl
  have z3 : wc.cell? ⟨gs, 3, none⟩ = some (.int .u32 s.x) := (blk_cell hB.out.bs 3).trans rfl
  have z20 : wc.cell? ⟨gs, 20, none⟩ = some (.bool s.o) := (blk_cell hB.out.bs 20).trans rfl
  have z21 : wc.cell? ⟨gs, 21, none⟩ = some (.int .u32 s.r) := (blk_cell hB.out.bs 21).trans rfl
  have x1 : wc.cell? ⟨gx, 1, none⟩ = some (.int .u8 jt) := (blk_cell hB.out.bx 1).trans rfl
  have x2 : wc.cell? ⟨gx, 2, none⟩ = some (.int .u8 jf) := (blk_cell hB.out.bx 2).trans rfl
  have x3 : wc.cell? ⟨gx, 3, none⟩ = some (.int .u32 K) := (blk_cell hB.out.bx 3).trans rfl
  have hs := Mine.blk_at hB.out.bs 4 .u32 [s.C 0, s.C 1, s.C 2, s.C 3, s.C 4, s.C 5, s.C 6, s.C 7, s.C 8, s.C 9, s.C 10, s.C 11, s.C 12, s.C 13, s.C 14, s.C 15] rfl K hk0'.out hk1'.out
  rw [step_rd s.C K hk0'.out hk1'.out] at hs
  have ps := eq_true hk0'.out
  have qs := eq_true hk1'.out
  go_wp2_with (first | ((with_reducible refine gate_dst (N := 176) rfl ?_); refine wpList_load_row rfl 73 (.tmp 5) rfl gs rfl 73 (stA (wrap64 (t + 1)) (wrap64 (n + 1)) { s with x := s.C K }) (0, 0) _ (show StB _ _ _ _ _ _ _ (stA (wrap64 (t + 1)) (wrap64 (n + 1)) { s with x := s.C K }) _ from (hB.out).put 3 _ rfl).bs Try.underlying73 rfl (by kernel_rfl) ?_) | ((with_reducible refine gate_store (t := 73) (p := 6) rfl ?_); refine wpList_store_row rfl 73 (.tmp 6) (.tmp 176) rfl gr (stA (wrap64 (t + 1)) (wrap64 (n + 1)) { s with x := s.C K }) rfl rfl 73 _ (show StB _ _ _ _ _ _ _ (stA (wrap64 (t + 1)) (wrap64 (n + 1)) { s with x := s.C K }) _ from (hB.out).put 3 _ rfl).br (by kernel_rfl) rfl (stA_one _ _ _) ?_))
  refine bodyPost_ret (results_cell_row rfl _ _ gr 73 (stA (wrap64 (t + 1)) (wrap64 (n + 1)) { s with x := s.C K }) (0, 0) _ rfl (setRow_heap _ _ _ _ _ _ (show StB _ _ _ _ _ _ _ (stA (wrap64 (t + 1)) (wrap64 (n + 1)) { s with x := s.C K }) _ from (hB.out).put 3 _ rfl).br) Try.underlying73 rfl (by kernel_rfl)) rfl ?_
  exact ⟨rfl, step_setRow (show StB _ _ _ _ _ _ _ (stA (wrap64 (t + 1)) (wrap64 (n + 1)) { s with x := s.C K }) _ from (hB.out).put 3 _ rfl).below (by first | exact hB2.out.gr0 | exact hB.out.gr0) _⟩
set_option maxHeartbeats 8000000 in
set_option maxRecDepth 100000 in
theorem fairleadref06_Step.c2 (k : Nat) (A0 : Option Addr) (c0 : Nat) (l0 : List S53) (d0 d1 d2 d3 d4 d5 d6 d7 d8 t n jt jf K : Int) (s : StS) (w : World) (hr0 : Kd.C k53 w A0 l0.length l0) (hc0 : l0.length ≤ c0) (ht : 0 ≤ t) (ht1 : t < l0.length) (hx : rd_T53 l0 t = ⟨2, jt, jf, K⟩) (hk0 : 0 ≤ K) (hk1 : K < 16) :
  Calls Try.prog 35 #[.slice A0 l0.length c0, .agg #[.int .u32 d0, .int .u32 d1, .int .u64 d2, .int .u64 d3, .int .u64 d4, .int .u64 d5, .int .u64 d6, .int .u64 d7, .int .u64 d8], .agg (stA t n s)] w fun e w' => e = .returned (.agg (stA (wrap64 (t + 1)) (wrap64 (n + 1)) { s with C := fun j => if j = K then s.a else s.C j })) ∧ Below w.heap.size w w' := by
  have hu27_ := Try.underlying27
  have hu56_ := Try.underlying73
  have hu37_ := Try.underlying53
  have HR0 := Aside0.mk hr0
  have HC0 := Aside0.mk hc0
  clear hr0 hc0
  have hk0' := Aside0.mk hk0
  have hk1' := Aside0.mk hk1
  clear hk0 hk1
  go_enter Try.func35, Try.ntmps35
  go_upto_region 6 with (first | ((with_reducible refine gate_dst (N := 4) rfl ?_); refine box_event ?hg (N := 4) ?hd (cs := #[.int .u32 d0, .int .u32 d1, .int .u64 d2, .int .u64 d3, .int .u64 d4, .int .u64 d5, .int .u64 d6, .int .u64 d7, .int .u64 d8]) (t := 27) ?hr ?_; (case hd => rfl); (case hg => rfl); (case hr => first | (go_simp; done) | (go_simp; rfl)); intro gd hg w1 hbox hb; have GD := Aside0.mk hg; have B1 := Aside0.mk hbox; have W1 := Aside0.mk hb; clear hg hbox hb) | ((with_reducible refine gate_dst (N := 5) rfl ?_); refine box_event ?hg (N := 5) ?hd (cs := #[.int .i64 (t), .int .i64 (n), .int .u32 s.a, .int .u32 s.x, .int .u32 (s.C 0), .int .u32 (s.C 1), .int .u32 (s.C 2), .int .u32 (s.C 3), .int .u32 (s.C 4), .int .u32 (s.C 5), .int .u32 (s.C 6), .int .u32 (s.C 7), .int .u32 (s.C 8), .int .u32 (s.C 9), .int .u32 (s.C 10), .int .u32 (s.C 11), .int .u32 (s.C 12), .int .u32 (s.C 13), .int .u32 (s.C 14), .int .u32 (s.C 15), .bool s.o, .int .u32 s.r]) (t := 73) ?hr ?_; (case hd => rfl); (case hg => rfl); (case hr => first | (go_simp; done) | (go_simp; rfl)); intro gs hg w2 hbox hb; have GS := Aside0.mk hg; have B2 := Aside0.mk hbox; have W2 := Aside0.mk hb; clear hg hbox hb) | ((with_reducible refine gate_dst (N := 6) rfl ?_); refine box_event ?hg (N := 6) ?hd (cs := #[.int .i64 0, .int .i64 0, .int .u32 0, .int .u32 0, .int .u32 0, .int .u32 0, .int .u32 0, .int .u32 0, .int .u32 0, .int .u32 0, .int .u32 0, .int .u32 0, .int .u32 0, .int .u32 0, .int .u32 0, .int .u32 0, .int .u32 0, .int .u32 0, .int .u32 0, .int .u32 0, .bool false, .int .u32 0]) (t := 73) ?hr ?_; (case hd => rfl); (case hg => rfl); (case hr => first | (go_simp; done) | (go_simp; rfl)); intro gr hg w3 hbox hb; have GR := Aside0.mk hg; have B3 := Aside0.mk hbox; have W3 := Aside0.mk hb; clear hg hbox hb; have HS := Aside0.mk (blk_below B2.out W3.out); have hq0 := (blk_cell HS.out 0).trans rfl; obtain ⟨ad, rfl, hx0, hx1, hx2, hx3⟩ := at_T53 HR0.out t ht ht1; rw [hx] at hx0 hx1 hx2 hx3; simp only at hx0 hx1 hx2 hx3; have WW := Aside0.mk (below_step (below_step (below_step (Below.refl w.heap.size w) W1.out) W2.out) W3.out); replace hx0 := (WW.out.cell (World.block_lt_of_cell? w _ hx0)).trans hx0; replace hx1 := (WW.out.cell (World.block_lt_of_cell? w _ hx1)).trans hx1; replace hx2 := (WW.out.cell (World.block_lt_of_cell? w _ hx2)).trans hx2; replace hx3 := (WW.out.cell (World.block_lt_of_cell? w _ hx3)).trans hx3; have p0 := decide_eq_true ht; have p1 := decide_eq_true ht1) | ((with_reducible refine gate_dst (N := 7) rfl ?_); refine box_event ?hg (N := 7) ?hd (cs := #[.int .u16 0, .int .u8 0, .int .u8 0, .int .u32 0]) (t := 53) ?hr ?_; (case hd => rfl); (case hg => rfl); (case hr => first | (go_simp; done) | (go_simp; rfl)); intro gx hg w4 hbox hb; have GX := Aside0.mk hg; have B4 := Aside0.mk hbox; have W4 := Aside0.mk hb; clear hg hbox hb; have hne : gs ≠ gx := (by rw [GX.out]; exact Nat.ne_of_lt (blk_lt HS.out)); have HS := Aside0.mk (blk_below HS.out W4.out); have hq0 := (blk_cell HS.out 0).trans rfl; have hq1 := (blk_cell HS.out 1).trans rfl; have hf0 := blk_frozen HS.out 0; have hf1 := blk_frozen HS.out 1; have hf2 := blk_frozen B4.out 0; have hf3 := blk_frozen B4.out 1; have hf4 := blk_frozen B4.out 2; have hf5 := blk_frozen B4.out 3; have hg0 := (blk_cell B4.out 0).trans rfl; have hg1 := (blk_cell B4.out 1).trans rfl; have hg2 := (blk_cell B4.out 2).trans rfl; have hg3 := (blk_cell B4.out 3).trans rfl))
  (try simp only [Act.put, List.setIfInBounds_toArray, List.set_cons_zero, List.set_cons_succ])
  refine step_gen (R := fun wc => StB w wc gd gs gr gx #[.int .u32 d0, .int .u32 d1, .int .u64 d2, .int .u64 d3, .int .u64 d4, .int .u64 d5, .int .u64 d6, .int .u64 d7, .int .u64 d8] (stA (wrap64 (t + 1)) (wrap64 (n + 1)) s) _) (step_made B1.out B2.out B3.out B4.out W1.out W2.out W3.out W4.out GD.out GS.out GR.out GX.out _ jt jf K) (fun wc hB0 => ?_)
  have hB := Aside0.mk hB0
  clear hB0
  clear hx0 hx1 hx2 hx3 hq0 hq1 hf0 hf1 hf2 hf3 hf4 hf5 hg0 hg1 hg2 hg3 hne p0 p1 B1 B2 B3 B4 W1 W2 W3 W4 GD GS GR GX HS WW HR0 HC0
  have n1 := hB.out.sd
  have n2 := hB.out.sr
  have n3 := hB.out.sx
  have n4 := hB.out.sr.symm
  have n5 := hB.out.sx.symm
  have fs := fun j => blk_frozen hB.out.bs j
  have z0 : wc.cell? ⟨gs, 0, none⟩ = some (.int .i64 (wrap64 (t + 1))) := (blk_cell hB.out.bs 0).trans rfl
  have z2 : wc.cell? ⟨gs, 2, none⟩ = some (.int .u32 s.a) := (blk_cell hB.out.bs 2).trans rfl
  have z3 : wc.cell? ⟨gs, 3, none⟩ = some (.int .u32 s.x) := (blk_cell hB.out.bs 3).trans rfl
  have z20 : wc.cell? ⟨gs, 20, none⟩ = some (.bool s.o) := (blk_cell hB.out.bs 20).trans rfl
  have z21 : wc.cell? ⟨gs, 21, none⟩ = some (.int .u32 s.r) := (blk_cell hB.out.bs 21).trans rfl
  have x1 : wc.cell? ⟨gx, 1, none⟩ = some (.int .u8 jt) := (blk_cell hB.out.bx 1).trans rfl
  have x2 : wc.cell? ⟨gx, 2, none⟩ = some (.int .u8 jf) := (blk_cell hB.out.bx 2).trans rfl
  have x3 : wc.cell? ⟨gx, 3, none⟩ = some (.int .u32 K) := (blk_cell hB.out.bx 3).trans rfl
  have hs := Mine.blk_at hB.out.bs 4 .u32 [s.C 0, s.C 1, s.C 2, s.C 3, s.C 4, s.C 5, s.C 6, s.C 7, s.C 8, s.C 9, s.C 10, s.C 11, s.C 12, s.C 13, s.C 14, s.C 15] rfl K hk0'.out hk1'.out
  have ps := eq_true hk0'.out
  have qs := eq_true hk1'.out
  go_wp2_with (first | ((with_reducible refine gate_dst (N := 176) rfl ?_); refine wpList_load_row rfl 73 (.tmp 5) rfl gs rfl 73 (stA (wrap64 (t + 1)) (wrap64 (n + 1)) { s with C := fun j => if j = K then s.a else s.C j }) (0, 0) _ (show StB _ _ _ _ _ _ _ (stA (wrap64 (t + 1)) (wrap64 (n + 1)) { s with C := fun j => if j = K then s.a else s.C j }) _ from (hB.out).put (4 + K.toNat) _ (step_set _ _ s K _ hk0'.out hk1'.out)).bs Try.underlying73 rfl (by kernel_rfl) ?_) | ((with_reducible refine gate_store (t := 73) (p := 6) rfl ?_); refine wpList_store_row rfl 73 (.tmp 6) (.tmp 176) rfl gr (stA (wrap64 (t + 1)) (wrap64 (n + 1)) { s with C := fun j => if j = K then s.a else s.C j }) rfl rfl 73 _ (show StB _ _ _ _ _ _ _ (stA (wrap64 (t + 1)) (wrap64 (n + 1)) { s with C := fun j => if j = K then s.a else s.C j }) _ from (hB.out).put (4 + K.toNat) _ (step_set _ _ s K _ hk0'.out hk1'.out)).br (by kernel_rfl) rfl (stA_one _ _ _) ?_))
  refine bodyPost_ret (results_cell_row rfl _ _ gr 73 (stA (wrap64 (t + 1)) (wrap64 (n + 1)) { s with C := fun j => if j = K then s.a else s.C j }) (0, 0) _ rfl (setRow_heap _ _ _ _ _ _ (show StB _ _ _ _ _ _ _ (stA (wrap64 (t + 1)) (wrap64 (n + 1)) { s with C := fun j => if j = K then s.a else s.C j }) _ from (hB.out).put (4 + K.toNat) _ (step_set _ _ s K _ hk0'.out hk1'.out)).br) Try.underlying73 rfl (by kernel_rfl)) rfl ?_
  exact ⟨rfl, step_setRow (show StB _ _ _ _ _ _ _ (stA (wrap64 (t + 1)) (wrap64 (n + 1)) { s with C := fun j => if j = K then s.a else s.C j }) _ from (hB.out).put (4 + K.toNat) _ (step_set _ _ s K _ hk0'.out hk1'.out)).below (by first | exact hB2.out.gr0 | exact hB.out.gr0) _⟩
set_option maxHeartbeats 8000000 in
set_option maxRecDepth 100000 in
theorem fairleadref06_Step.c3 (k : Nat) (A0 : Option Addr) (c0 : Nat) (l0 : List S53) (d0 d1 d2 d3 d4 d5 d6 d7 d8 t n jt jf K : Int) (s : StS) (w : World) (hr0 : Kd.C k53 w A0 l0.length l0) (hc0 : l0.length ≤ c0) (ht : 0 ≤ t) (ht1 : t < l0.length) (hx : rd_T53 l0 t = ⟨3, jt, jf, K⟩) (hk0 : 0 ≤ K) (hk1 : K < 16) :
  Calls Try.prog 35 #[.slice A0 l0.length c0, .agg #[.int .u32 d0, .int .u32 d1, .int .u64 d2, .int .u64 d3, .int .u64 d4, .int .u64 d5, .int .u64 d6, .int .u64 d7, .int .u64 d8], .agg (stA t n s)] w fun e w' => e = .returned (.agg (stA (wrap64 (t + 1)) (wrap64 (n + 1)) { s with C := fun j => if j = K then s.x else s.C j })) ∧ Below w.heap.size w w' := by
  have hu27_ := Try.underlying27
  have hu56_ := Try.underlying73
  have hu37_ := Try.underlying53
  have HR0 := Aside0.mk hr0
  have HC0 := Aside0.mk hc0
  clear hr0 hc0
  have hk0' := Aside0.mk hk0
  have hk1' := Aside0.mk hk1
  clear hk0 hk1
  go_enter Try.func35, Try.ntmps35
  go_upto_region 6 with (first | ((with_reducible refine gate_dst (N := 4) rfl ?_); refine box_event ?hg (N := 4) ?hd (cs := #[.int .u32 d0, .int .u32 d1, .int .u64 d2, .int .u64 d3, .int .u64 d4, .int .u64 d5, .int .u64 d6, .int .u64 d7, .int .u64 d8]) (t := 27) ?hr ?_; (case hd => rfl); (case hg => rfl); (case hr => first | (go_simp; done) | (go_simp; rfl)); intro gd hg w1 hbox hb; have GD := Aside0.mk hg; have B1 := Aside0.mk hbox; have W1 := Aside0.mk hb; clear hg hbox hb) | ((with_reducible refine gate_dst (N := 5) rfl ?_); refine box_event ?hg (N := 5) ?hd (cs := #[.int .i64 (t), .int .i64 (n), .int .u32 s.a, .int .u32 s.x, .int .u32 (s.C 0), .int .u32 (s.C 1), .int .u32 (s.C 2), .int .u32 (s.C 3), .int .u32 (s.C 4), .int .u32 (s.C 5), .int .u32 (s.C 6), .int .u32 (s.C 7), .int .u32 (s.C 8), .int .u32 (s.C 9), .int .u32 (s.C 10), .int .u32 (s.C 11), .int .u32 (s.C 12), .int .u32 (s.C 13), .int .u32 (s.C 14), .int .u32 (s.C 15), .bool s.o, .int .u32 s.r]) (t := 73) ?hr ?_; (case hd => rfl); (case hg => rfl); (case hr => first | (go_simp; done) | (go_simp; rfl)); intro gs hg w2 hbox hb; have GS := Aside0.mk hg; have B2 := Aside0.mk hbox; have W2 := Aside0.mk hb; clear hg hbox hb) | ((with_reducible refine gate_dst (N := 6) rfl ?_); refine box_event ?hg (N := 6) ?hd (cs := #[.int .i64 0, .int .i64 0, .int .u32 0, .int .u32 0, .int .u32 0, .int .u32 0, .int .u32 0, .int .u32 0, .int .u32 0, .int .u32 0, .int .u32 0, .int .u32 0, .int .u32 0, .int .u32 0, .int .u32 0, .int .u32 0, .int .u32 0, .int .u32 0, .int .u32 0, .int .u32 0, .bool false, .int .u32 0]) (t := 73) ?hr ?_; (case hd => rfl); (case hg => rfl); (case hr => first | (go_simp; done) | (go_simp; rfl)); intro gr hg w3 hbox hb; have GR := Aside0.mk hg; have B3 := Aside0.mk hbox; have W3 := Aside0.mk hb; clear hg hbox hb; have HS := Aside0.mk (blk_below B2.out W3.out); have hq0 := (blk_cell HS.out 0).trans rfl; obtain ⟨ad, rfl, hx0, hx1, hx2, hx3⟩ := at_T53 HR0.out t ht ht1; rw [hx] at hx0 hx1 hx2 hx3; simp only at hx0 hx1 hx2 hx3; have WW := Aside0.mk (below_step (below_step (below_step (Below.refl w.heap.size w) W1.out) W2.out) W3.out); replace hx0 := (WW.out.cell (World.block_lt_of_cell? w _ hx0)).trans hx0; replace hx1 := (WW.out.cell (World.block_lt_of_cell? w _ hx1)).trans hx1; replace hx2 := (WW.out.cell (World.block_lt_of_cell? w _ hx2)).trans hx2; replace hx3 := (WW.out.cell (World.block_lt_of_cell? w _ hx3)).trans hx3; have p0 := decide_eq_true ht; have p1 := decide_eq_true ht1) | ((with_reducible refine gate_dst (N := 7) rfl ?_); refine box_event ?hg (N := 7) ?hd (cs := #[.int .u16 0, .int .u8 0, .int .u8 0, .int .u32 0]) (t := 53) ?hr ?_; (case hd => rfl); (case hg => rfl); (case hr => first | (go_simp; done) | (go_simp; rfl)); intro gx hg w4 hbox hb; have GX := Aside0.mk hg; have B4 := Aside0.mk hbox; have W4 := Aside0.mk hb; clear hg hbox hb; have hne : gs ≠ gx := (by rw [GX.out]; exact Nat.ne_of_lt (blk_lt HS.out)); have HS := Aside0.mk (blk_below HS.out W4.out); have hq0 := (blk_cell HS.out 0).trans rfl; have hq1 := (blk_cell HS.out 1).trans rfl; have hf0 := blk_frozen HS.out 0; have hf1 := blk_frozen HS.out 1; have hf2 := blk_frozen B4.out 0; have hf3 := blk_frozen B4.out 1; have hf4 := blk_frozen B4.out 2; have hf5 := blk_frozen B4.out 3; have hg0 := (blk_cell B4.out 0).trans rfl; have hg1 := (blk_cell B4.out 1).trans rfl; have hg2 := (blk_cell B4.out 2).trans rfl; have hg3 := (blk_cell B4.out 3).trans rfl))
  (try simp only [Act.put, List.setIfInBounds_toArray, List.set_cons_zero, List.set_cons_succ])
  refine step_gen (R := fun wc => StB w wc gd gs gr gx #[.int .u32 d0, .int .u32 d1, .int .u64 d2, .int .u64 d3, .int .u64 d4, .int .u64 d5, .int .u64 d6, .int .u64 d7, .int .u64 d8] (stA (wrap64 (t + 1)) (wrap64 (n + 1)) s) _) (step_made B1.out B2.out B3.out B4.out W1.out W2.out W3.out W4.out GD.out GS.out GR.out GX.out _ jt jf K) (fun wc hB0 => ?_)
  have hB := Aside0.mk hB0
  clear hB0
  clear hx0 hx1 hx2 hx3 hq0 hq1 hf0 hf1 hf2 hf3 hf4 hf5 hg0 hg1 hg2 hg3 hne p0 p1 B1 B2 B3 B4 W1 W2 W3 W4 GD GS GR GX HS WW HR0 HC0
  have n1 := hB.out.sd
  have n2 := hB.out.sr
  have n3 := hB.out.sx
  have n4 := hB.out.sr.symm
  have n5 := hB.out.sx.symm
  have fs := fun j => blk_frozen hB.out.bs j
  have z0 : wc.cell? ⟨gs, 0, none⟩ = some (.int .i64 (wrap64 (t + 1))) := (blk_cell hB.out.bs 0).trans rfl
  have z2 : wc.cell? ⟨gs, 2, none⟩ = some (.int .u32 s.a) := (blk_cell hB.out.bs 2).trans rfl
  have z3 : wc.cell? ⟨gs, 3, none⟩ = some (.int .u32 s.x) := (blk_cell hB.out.bs 3).trans rfl
  have z20 : wc.cell? ⟨gs, 20, none⟩ = some (.bool s.o) := (blk_cell hB.out.bs 20).trans rfl
  have z21 : wc.cell? ⟨gs, 21, none⟩ = some (.int .u32 s.r) := (blk_cell hB.out.bs 21).trans rfl
  have x1 : wc.cell? ⟨gx, 1, none⟩ = some (.int .u8 jt) := (blk_cell hB.out.bx 1).trans rfl
  have x2 : wc.cell? ⟨gx, 2, none⟩ = some (.int .u8 jf) := (blk_cell hB.out.bx 2).trans rfl
  have x3 : wc.cell? ⟨gx, 3, none⟩ = some (.int .u32 K) := (blk_cell hB.out.bx 3).trans rfl
  have hs := Mine.blk_at hB.out.bs 4 .u32 [s.C 0, s.C 1, s.C 2, s.C 3, s.C 4, s.C 5, s.C 6, s.C 7, s.C 8, s.C 9, s.C 10, s.C 11, s.C 12, s.C 13, s.C 14, s.C 15] rfl K hk0'.out hk1'.out
  have ps := eq_true hk0'.out
  have qs := eq_true hk1'.out
  go_wp2_with (first | ((with_reducible refine gate_dst (N := 176) rfl ?_); refine wpList_load_row rfl 73 (.tmp 5) rfl gs rfl 73 (stA (wrap64 (t + 1)) (wrap64 (n + 1)) { s with C := fun j => if j = K then s.x else s.C j }) (0, 0) _ (show StB _ _ _ _ _ _ _ (stA (wrap64 (t + 1)) (wrap64 (n + 1)) { s with C := fun j => if j = K then s.x else s.C j }) _ from (hB.out).put (4 + K.toNat) _ (step_set _ _ s K _ hk0'.out hk1'.out)).bs Try.underlying73 rfl (by kernel_rfl) ?_) | ((with_reducible refine gate_store (t := 73) (p := 6) rfl ?_); refine wpList_store_row rfl 73 (.tmp 6) (.tmp 176) rfl gr (stA (wrap64 (t + 1)) (wrap64 (n + 1)) { s with C := fun j => if j = K then s.x else s.C j }) rfl rfl 73 _ (show StB _ _ _ _ _ _ _ (stA (wrap64 (t + 1)) (wrap64 (n + 1)) { s with C := fun j => if j = K then s.x else s.C j }) _ from (hB.out).put (4 + K.toNat) _ (step_set _ _ s K _ hk0'.out hk1'.out)).br (by kernel_rfl) rfl (stA_one _ _ _) ?_))
  refine bodyPost_ret (results_cell_row rfl _ _ gr 73 (stA (wrap64 (t + 1)) (wrap64 (n + 1)) { s with C := fun j => if j = K then s.x else s.C j }) (0, 0) _ rfl (setRow_heap _ _ _ _ _ _ (show StB _ _ _ _ _ _ _ (stA (wrap64 (t + 1)) (wrap64 (n + 1)) { s with C := fun j => if j = K then s.x else s.C j }) _ from (hB.out).put (4 + K.toNat) _ (step_set _ _ s K _ hk0'.out hk1'.out)).br) Try.underlying73 rfl (by kernel_rfl)) rfl ?_
  exact ⟨rfl, step_setRow (show StB _ _ _ _ _ _ _ (stA (wrap64 (t + 1)) (wrap64 (n + 1)) { s with C := fun j => if j = K then s.x else s.C j }) _ from (hB.out).put (4 + K.toNat) _ (step_set _ _ s K _ hk0'.out hk1'.out)).below (by first | exact hB2.out.gr0 | exact hB.out.gr0) _⟩
set_option maxHeartbeats 8000000 in
set_option maxRecDepth 100000 in
theorem fairleadref06_Step.c32 (k : Nat) (A0 : Option Addr) (c0 : Nat) (l0 : List S53) (d0 d1 d2 d3 d4 d5 d6 d7 d8 t n jt jf K : Int) (v q : Int) (s : StS) (w : World) (hr0 : Kd.C k53 w A0 l0.length l0) (hc0 : l0.length ≤ c0) (ht : 0 ≤ t) (ht1 : t < l0.length) (hx : rd_T53 l0 t = ⟨32, jt, jf, K⟩) (hL : fairleadref04_Load.f k d0 d1 d2 d3 d4 d5 d6 d7 d8 K = some (v, q)) :
  Calls Try.prog 35 #[.slice A0 l0.length c0, .agg #[.int .u32 d0, .int .u32 d1, .int .u64 d2, .int .u64 d3, .int .u64 d4, .int .u64 d5, .int .u64 d6, .int .u64 d7, .int .u64 d8], .agg (stA t n s)] w fun e w' => e = .returned (.agg (stA (wrap64 (t + 1)) (wrap64 (n + 1)) { s with a := v })) ∧ Below w.heap.size w w' := by
  have hu27_ := Try.underlying27
  have hu56_ := Try.underlying73
  have hu37_ := Try.underlying53
  have HR0 := Aside0.mk hr0
  have HC0 := Aside0.mk hc0
  clear hr0 hc0
  have hL' := Aside0.mk hL
  clear hL
  go_enter Try.func35, Try.ntmps35
  go_upto_region 6 with (first | ((with_reducible refine gate_dst (N := 4) rfl ?_); refine box_event ?hg (N := 4) ?hd (cs := #[.int .u32 d0, .int .u32 d1, .int .u64 d2, .int .u64 d3, .int .u64 d4, .int .u64 d5, .int .u64 d6, .int .u64 d7, .int .u64 d8]) (t := 27) ?hr ?_; (case hd => rfl); (case hg => rfl); (case hr => first | (go_simp; done) | (go_simp; rfl)); intro gd hg w1 hbox hb; have GD := Aside0.mk hg; have B1 := Aside0.mk hbox; have W1 := Aside0.mk hb; clear hg hbox hb) | ((with_reducible refine gate_dst (N := 5) rfl ?_); refine box_event ?hg (N := 5) ?hd (cs := #[.int .i64 (t), .int .i64 (n), .int .u32 s.a, .int .u32 s.x, .int .u32 (s.C 0), .int .u32 (s.C 1), .int .u32 (s.C 2), .int .u32 (s.C 3), .int .u32 (s.C 4), .int .u32 (s.C 5), .int .u32 (s.C 6), .int .u32 (s.C 7), .int .u32 (s.C 8), .int .u32 (s.C 9), .int .u32 (s.C 10), .int .u32 (s.C 11), .int .u32 (s.C 12), .int .u32 (s.C 13), .int .u32 (s.C 14), .int .u32 (s.C 15), .bool s.o, .int .u32 s.r]) (t := 73) ?hr ?_; (case hd => rfl); (case hg => rfl); (case hr => first | (go_simp; done) | (go_simp; rfl)); intro gs hg w2 hbox hb; have GS := Aside0.mk hg; have B2 := Aside0.mk hbox; have W2 := Aside0.mk hb; clear hg hbox hb) | ((with_reducible refine gate_dst (N := 6) rfl ?_); refine box_event ?hg (N := 6) ?hd (cs := #[.int .i64 0, .int .i64 0, .int .u32 0, .int .u32 0, .int .u32 0, .int .u32 0, .int .u32 0, .int .u32 0, .int .u32 0, .int .u32 0, .int .u32 0, .int .u32 0, .int .u32 0, .int .u32 0, .int .u32 0, .int .u32 0, .int .u32 0, .int .u32 0, .int .u32 0, .int .u32 0, .bool false, .int .u32 0]) (t := 73) ?hr ?_; (case hd => rfl); (case hg => rfl); (case hr => first | (go_simp; done) | (go_simp; rfl)); intro gr hg w3 hbox hb; have GR := Aside0.mk hg; have B3 := Aside0.mk hbox; have W3 := Aside0.mk hb; clear hg hbox hb; have HS := Aside0.mk (blk_below B2.out W3.out); have hq0 := (blk_cell HS.out 0).trans rfl; obtain ⟨ad, rfl, hx0, hx1, hx2, hx3⟩ := at_T53 HR0.out t ht ht1; rw [hx] at hx0 hx1 hx2 hx3; simp only at hx0 hx1 hx2 hx3; have WW := Aside0.mk (below_step (below_step (below_step (Below.refl w.heap.size w) W1.out) W2.out) W3.out); replace hx0 := (WW.out.cell (World.block_lt_of_cell? w _ hx0)).trans hx0; replace hx1 := (WW.out.cell (World.block_lt_of_cell? w _ hx1)).trans hx1; replace hx2 := (WW.out.cell (World.block_lt_of_cell? w _ hx2)).trans hx2; replace hx3 := (WW.out.cell (World.block_lt_of_cell? w _ hx3)).trans hx3; have p0 := decide_eq_true ht; have p1 := decide_eq_true ht1) | ((with_reducible refine gate_dst (N := 7) rfl ?_); refine box_event ?hg (N := 7) ?hd (cs := #[.int .u16 0, .int .u8 0, .int .u8 0, .int .u32 0]) (t := 53) ?hr ?_; (case hd => rfl); (case hg => rfl); (case hr => first | (go_simp; done) | (go_simp; rfl)); intro gx hg w4 hbox hb; have GX := Aside0.mk hg; have B4 := Aside0.mk hbox; have W4 := Aside0.mk hb; clear hg hbox hb; have hne : gs ≠ gx := (by rw [GX.out]; exact Nat.ne_of_lt (blk_lt HS.out)); have HS := Aside0.mk (blk_below HS.out W4.out); have hq0 := (blk_cell HS.out 0).trans rfl; have hq1 := (blk_cell HS.out 1).trans rfl; have hf0 := blk_frozen HS.out 0; have hf1 := blk_frozen HS.out 1; have hf2 := blk_frozen B4.out 0; have hf3 := blk_frozen B4.out 1; have hf4 := blk_frozen B4.out 2; have hf5 := blk_frozen B4.out 3; have hg0 := (blk_cell B4.out 0).trans rfl; have hg1 := (blk_cell B4.out 1).trans rfl; have hg2 := (blk_cell B4.out 2).trans rfl; have hg3 := (blk_cell B4.out 3).trans rfl))
  (try simp only [Act.put, List.setIfInBounds_toArray, List.set_cons_zero, List.set_cons_succ])
  refine step_gen (R := fun wc => StB w wc gd gs gr gx #[.int .u32 d0, .int .u32 d1, .int .u64 d2, .int .u64 d3, .int .u64 d4, .int .u64 d5, .int .u64 d6, .int .u64 d7, .int .u64 d8] (stA (wrap64 (t + 1)) (wrap64 (n + 1)) s) _) (step_made B1.out B2.out B3.out B4.out W1.out W2.out W3.out W4.out GD.out GS.out GR.out GX.out _ jt jf K) (fun wc hB0 => ?_)
  have hB := Aside0.mk hB0
  clear hB0
  clear hx0 hx1 hx2 hx3 hq0 hq1 hf0 hf1 hf2 hf3 hf4 hf5 hg0 hg1 hg2 hg3 hne p0 p1 B1 B2 B3 B4 W1 W2 W3 W4 GD GS GR GX HS WW HR0 HC0
  have n1 := hB.out.sd
  have n2 := hB.out.sr
  have n3 := hB.out.sx
  have n4 := hB.out.sr.symm
  have n5 := hB.out.sx.symm
  have fs := fun j => blk_frozen hB.out.bs j
  have z0 : wc.cell? ⟨gs, 0, none⟩ = some (.int .i64 (wrap64 (t + 1))) := (blk_cell hB.out.bs 0).trans rfl
  have z2 : wc.cell? ⟨gs, 2, none⟩ = some (.int .u32 s.a) := (blk_cell hB.out.bs 2).trans rfl
  have z3 : wc.cell? ⟨gs, 3, none⟩ = some (.int .u32 s.x) := (blk_cell hB.out.bs 3).trans rfl
  have z20 : wc.cell? ⟨gs, 20, none⟩ = some (.bool s.o) := (blk_cell hB.out.bs 20).trans rfl
  have z21 : wc.cell? ⟨gs, 21, none⟩ = some (.int .u32 s.r) := (blk_cell hB.out.bs 21).trans rfl
  have x1 : wc.cell? ⟨gx, 1, none⟩ = some (.int .u8 jt) := (blk_cell hB.out.bx 1).trans rfl
  have x2 : wc.cell? ⟨gx, 2, none⟩ = some (.int .u8 jf) := (blk_cell hB.out.bx 2).trans rfl
  have x3 : wc.cell? ⟨gx, 3, none⟩ = some (.int .u32 K) := (blk_cell hB.out.bx 3).trans rfl
  have y0 : wc.cell? ⟨gd, 0, none⟩ = some (.int .u32 d0) := (blk_cell hB.out.bd 0).trans rfl
  have y1 : wc.cell? ⟨gd, 1, none⟩ = some (.int .u32 d1) := (blk_cell hB.out.bd 1).trans rfl
  have y2 : wc.cell? ⟨gd, 2, none⟩ = some (.int .u64 d2) := (blk_cell hB.out.bd 2).trans rfl
  have y3 : wc.cell? ⟨gd, 3, none⟩ = some (.int .u64 d3) := (blk_cell hB.out.bd 3).trans rfl
  have y4 : wc.cell? ⟨gd, 4, none⟩ = some (.int .u64 d4) := (blk_cell hB.out.bd 4).trans rfl
  have y5 : wc.cell? ⟨gd, 5, none⟩ = some (.int .u64 d5) := (blk_cell hB.out.bd 5).trans rfl
  have y6 : wc.cell? ⟨gd, 6, none⟩ = some (.int .u64 d6) := (blk_cell hB.out.bd 6).trans rfl
  have y7 : wc.cell? ⟨gd, 7, none⟩ = some (.int .u64 d7) := (blk_cell hB.out.bd 7).trans rfl
  have y8 : wc.cell? ⟨gd, 8, none⟩ = some (.int .u64 d8) := (blk_cell hB.out.bd 8).trans rfl
  go_wp2_with (first | ((go_at_call 43; (refine (fairleadref04_Load.calls k d0 d1 d2 d3 d4 d5 d6 d7 d8 K v q _ hL'.out).mono ?_); rintro e w2 ⟨rfl, hd⟩; have hB2 := Aside0.mk (hB.out.call (hd)); clear hd z0 z2 z3 z20 z21 x1 x2 x3 fs hB y0 y1 y2 y3 y4 y5 y6 y7 y8; have z0 : w2.cell? ⟨gs, 0, none⟩ = some (.int .i64 (wrap64 (t + 1))) := (blk_cell hB2.out.bs 0).trans rfl; have z2 : w2.cell? ⟨gs, 2, none⟩ = some (.int .u32 s.a) := (blk_cell hB2.out.bs 2).trans rfl; have x1 : w2.cell? ⟨gx, 1, none⟩ = some (.int .u8 jt) := (blk_cell hB2.out.bx 1).trans rfl; have x2 : w2.cell? ⟨gx, 2, none⟩ = some (.int .u8 jf) := (blk_cell hB2.out.bx 2).trans rfl; have fs := fun j => blk_frozen hB2.out.bs j)) | ((with_reducible refine gate_dst (N := 176) rfl ?_); refine wpList_load_row rfl 73 (.tmp 5) rfl gs rfl 73 (stA (wrap64 (t + 1)) (wrap64 (n + 1)) { s with a := v }) (0, 0) _ (show StB _ _ _ _ _ _ _ (stA (wrap64 (t + 1)) (wrap64 (n + 1)) { s with a := v }) _ from (hB2.out).put 2 _ rfl).bs Try.underlying73 rfl (by kernel_rfl) ?_) | ((with_reducible refine gate_store (t := 73) (p := 6) rfl ?_); refine wpList_store_row rfl 73 (.tmp 6) (.tmp 176) rfl gr (stA (wrap64 (t + 1)) (wrap64 (n + 1)) { s with a := v }) rfl rfl 73 _ (show StB _ _ _ _ _ _ _ (stA (wrap64 (t + 1)) (wrap64 (n + 1)) { s with a := v }) _ from (hB2.out).put 2 _ rfl).br (by kernel_rfl) rfl (stA_one _ _ _) ?_))
  refine bodyPost_ret (results_cell_row rfl _ _ gr 73 (stA (wrap64 (t + 1)) (wrap64 (n + 1)) { s with a := v }) (0, 0) _ rfl (setRow_heap _ _ _ _ _ _ (show StB _ _ _ _ _ _ _ (stA (wrap64 (t + 1)) (wrap64 (n + 1)) { s with a := v }) _ from (hB2.out).put 2 _ rfl).br) Try.underlying73 rfl (by kernel_rfl)) rfl ?_
  exact ⟨rfl, step_setRow (show StB _ _ _ _ _ _ _ (stA (wrap64 (t + 1)) (wrap64 (n + 1)) { s with a := v }) _ from (hB2.out).put 2 _ rfl).below (by first | exact hB2.out.gr0 | exact hB.out.gr0) _⟩
set_option maxHeartbeats 8000000 in
set_option maxRecDepth 100000 in
theorem fairleadref06_Step.jk (k : Nat) (A0 : Option Addr) (c0 : Nat) (l0 : List S53) (d0 d1 d2 d3 d4 d5 d6 d7 d8 t n jt jf K : Int) (c z : Int) (b : Bool) (s : StS) (w : World) (hr0 : Kd.C k53 w A0 l0.length l0) (hc0 : l0.length ≤ c0) (ht : 0 ≤ t) (ht1 : t < l0.length) (hx : rd_T53 l0 t = ⟨c, jt, jf, K⟩) (hc : (c = 21 ∧ b = true ∧ z = wrap64 jt) ∨ (c = 21 ∧ b = false ∧ z = wrap64 jf) ∨ (c = 37 ∧ b = true ∧ z = wrap64 jt) ∨ (c = 37 ∧ b = false ∧ z = wrap64 jf) ∨ (c = 53 ∧ b = true ∧ z = wrap64 jt) ∨ (c = 53 ∧ b = false ∧ z = wrap64 jf) ∨ (c = 69 ∧ b = true ∧ z = wrap64 jt) ∨ (c = 69 ∧ b = false ∧ z = wrap64 jf)) (hL : fairleadref06_holds.f c s.a K = some b) :
  Calls Try.prog 35 #[.slice A0 l0.length c0, .agg #[.int .u32 d0, .int .u32 d1, .int .u64 d2, .int .u64 d3, .int .u64 d4, .int .u64 d5, .int .u64 d6, .int .u64 d7, .int .u64 d8], .agg (stA t n s)] w fun e w' => e = .returned (.agg (stA (wrap64 ((wrap64 (t + 1)) + z)) (wrap64 (n + 1)) s)) ∧ Below w.heap.size w w' := by
  have hu27_ := Try.underlying27
  have hu56_ := Try.underlying73
  have hu37_ := Try.underlying53
  have HR0 := Aside0.mk hr0
  have HC0 := Aside0.mk hc0
  clear hr0 hc0
  rcases hc with ⟨rfl, rfl, rfl⟩ | ⟨rfl, rfl, rfl⟩ | ⟨rfl, rfl, rfl⟩ | ⟨rfl, rfl, rfl⟩ | ⟨rfl, rfl, rfl⟩ | ⟨rfl, rfl, rfl⟩ | ⟨rfl, rfl, rfl⟩ | ⟨rfl, rfl, rfl⟩
  all_goals
    have hL' := Aside0.mk hL
    clear hL
    go_enter Try.func35, Try.ntmps35
    go_upto_region 6 with (first | ((with_reducible refine gate_dst (N := 4) rfl ?_); refine box_event ?hg (N := 4) ?hd (cs := #[.int .u32 d0, .int .u32 d1, .int .u64 d2, .int .u64 d3, .int .u64 d4, .int .u64 d5, .int .u64 d6, .int .u64 d7, .int .u64 d8]) (t := 27) ?hr ?_; (case hd => rfl); (case hg => rfl); (case hr => first | (go_simp; done) | (go_simp; rfl)); intro gd hg w1 hbox hb; have GD := Aside0.mk hg; have B1 := Aside0.mk hbox; have W1 := Aside0.mk hb; clear hg hbox hb) | ((with_reducible refine gate_dst (N := 5) rfl ?_); refine box_event ?hg (N := 5) ?hd (cs := #[.int .i64 (t), .int .i64 (n), .int .u32 s.a, .int .u32 s.x, .int .u32 (s.C 0), .int .u32 (s.C 1), .int .u32 (s.C 2), .int .u32 (s.C 3), .int .u32 (s.C 4), .int .u32 (s.C 5), .int .u32 (s.C 6), .int .u32 (s.C 7), .int .u32 (s.C 8), .int .u32 (s.C 9), .int .u32 (s.C 10), .int .u32 (s.C 11), .int .u32 (s.C 12), .int .u32 (s.C 13), .int .u32 (s.C 14), .int .u32 (s.C 15), .bool s.o, .int .u32 s.r]) (t := 73) ?hr ?_; (case hd => rfl); (case hg => rfl); (case hr => first | (go_simp; done) | (go_simp; rfl)); intro gs hg w2 hbox hb; have GS := Aside0.mk hg; have B2 := Aside0.mk hbox; have W2 := Aside0.mk hb; clear hg hbox hb) | ((with_reducible refine gate_dst (N := 6) rfl ?_); refine box_event ?hg (N := 6) ?hd (cs := #[.int .i64 0, .int .i64 0, .int .u32 0, .int .u32 0, .int .u32 0, .int .u32 0, .int .u32 0, .int .u32 0, .int .u32 0, .int .u32 0, .int .u32 0, .int .u32 0, .int .u32 0, .int .u32 0, .int .u32 0, .int .u32 0, .int .u32 0, .int .u32 0, .int .u32 0, .int .u32 0, .bool false, .int .u32 0]) (t := 73) ?hr ?_; (case hd => rfl); (case hg => rfl); (case hr => first | (go_simp; done) | (go_simp; rfl)); intro gr hg w3 hbox hb; have GR := Aside0.mk hg; have B3 := Aside0.mk hbox; have W3 := Aside0.mk hb; clear hg hbox hb; have HS := Aside0.mk (blk_below B2.out W3.out); have hq0 := (blk_cell HS.out 0).trans rfl; obtain ⟨ad, rfl, hx0, hx1, hx2, hx3⟩ := at_T53 HR0.out t ht ht1; rw [hx] at hx0 hx1 hx2 hx3; simp only at hx0 hx1 hx2 hx3; have WW := Aside0.mk (below_step (below_step (below_step (Below.refl w.heap.size w) W1.out) W2.out) W3.out); replace hx0 := (WW.out.cell (World.block_lt_of_cell? w _ hx0)).trans hx0; replace hx1 := (WW.out.cell (World.block_lt_of_cell? w _ hx1)).trans hx1; replace hx2 := (WW.out.cell (World.block_lt_of_cell? w _ hx2)).trans hx2; replace hx3 := (WW.out.cell (World.block_lt_of_cell? w _ hx3)).trans hx3; have p0 := decide_eq_true ht; have p1 := decide_eq_true ht1) | ((with_reducible refine gate_dst (N := 7) rfl ?_); refine box_event ?hg (N := 7) ?hd (cs := #[.int .u16 0, .int .u8 0, .int .u8 0, .int .u32 0]) (t := 53) ?hr ?_; (case hd => rfl); (case hg => rfl); (case hr => first | (go_simp; done) | (go_simp; rfl)); intro gx hg w4 hbox hb; have GX := Aside0.mk hg; have B4 := Aside0.mk hbox; have W4 := Aside0.mk hb; clear hg hbox hb; have hne : gs ≠ gx := (by rw [GX.out]; exact Nat.ne_of_lt (blk_lt HS.out)); have HS := Aside0.mk (blk_below HS.out W4.out); have hq0 := (blk_cell HS.out 0).trans rfl; have hq1 := (blk_cell HS.out 1).trans rfl; have hf0 := blk_frozen HS.out 0; have hf1 := blk_frozen HS.out 1; have hf2 := blk_frozen B4.out 0; have hf3 := blk_frozen B4.out 1; have hf4 := blk_frozen B4.out 2; have hf5 := blk_frozen B4.out 3; have hg0 := (blk_cell B4.out 0).trans rfl; have hg1 := (blk_cell B4.out 1).trans rfl; have hg2 := (blk_cell B4.out 2).trans rfl; have hg3 := (blk_cell B4.out 3).trans rfl))
    (try simp only [Act.put, List.setIfInBounds_toArray, List.set_cons_zero, List.set_cons_succ])
    refine step_gen (R := fun wc => StB w wc gd gs gr gx #[.int .u32 d0, .int .u32 d1, .int .u64 d2, .int .u64 d3, .int .u64 d4, .int .u64 d5, .int .u64 d6, .int .u64 d7, .int .u64 d8] (stA (wrap64 (t + 1)) (wrap64 (n + 1)) s) _) (step_made B1.out B2.out B3.out B4.out W1.out W2.out W3.out W4.out GD.out GS.out GR.out GX.out _ jt jf K) (fun wc hB0 => ?_)
    have hB := Aside0.mk hB0
    clear hB0
    clear hx0 hx1 hx2 hx3 hq0 hq1 hf0 hf1 hf2 hf3 hf4 hf5 hg0 hg1 hg2 hg3 hne p0 p1 B1 B2 B3 B4 W1 W2 W3 W4 GD GS GR GX HS WW HR0 HC0
    have n1 := hB.out.sd
    have n2 := hB.out.sr
    have n3 := hB.out.sx
    have n4 := hB.out.sr.symm
    have n5 := hB.out.sx.symm
    have fs := fun j => blk_frozen hB.out.bs j
    have z0 : wc.cell? ⟨gs, 0, none⟩ = some (.int .i64 (wrap64 (t + 1))) := (blk_cell hB.out.bs 0).trans rfl
    have z2 : wc.cell? ⟨gs, 2, none⟩ = some (.int .u32 s.a) := (blk_cell hB.out.bs 2).trans rfl
    have z3 : wc.cell? ⟨gs, 3, none⟩ = some (.int .u32 s.x) := (blk_cell hB.out.bs 3).trans rfl
    have z20 : wc.cell? ⟨gs, 20, none⟩ = some (.bool s.o) := (blk_cell hB.out.bs 20).trans rfl
    have z21 : wc.cell? ⟨gs, 21, none⟩ = some (.int .u32 s.r) := (blk_cell hB.out.bs 21).trans rfl
    have x1 : wc.cell? ⟨gx, 1, none⟩ = some (.int .u8 jt) := (blk_cell hB.out.bx 1).trans rfl
    have x2 : wc.cell? ⟨gx, 2, none⟩ = some (.int .u8 jf) := (blk_cell hB.out.bx 2).trans rfl
    have x3 : wc.cell? ⟨gx, 3, none⟩ = some (.int .u32 K) := (blk_cell hB.out.bx 3).trans rfl
    go_wp2_with (first | ((go_at_call 44; (refine (fairleadref06_holds.calls _ s.a K _ _ hL'.out).mono ?_); rintro e w2 ⟨rfl, hd⟩; have hB2 := Aside0.mk (hB.out.call (hd.below)); clear hd z0 z2 z3 z20 z21 x1 x2 x3 fs hB; have z0 : w2.cell? ⟨gs, 0, none⟩ = some (.int .i64 (wrap64 (t + 1))) := (blk_cell hB2.out.bs 0).trans rfl; have z2 : w2.cell? ⟨gs, 2, none⟩ = some (.int .u32 s.a) := (blk_cell hB2.out.bs 2).trans rfl; have x1 : w2.cell? ⟨gx, 1, none⟩ = some (.int .u8 jt) := (blk_cell hB2.out.bx 1).trans rfl; have x2 : w2.cell? ⟨gx, 2, none⟩ = some (.int .u8 jf) := (blk_cell hB2.out.bx 2).trans rfl; have fs := fun j => blk_frozen hB2.out.bs j)) | ((with_reducible refine gate_dst (N := 176) rfl ?_); refine wpList_load_row rfl 73 (.tmp 5) rfl gs rfl 73 (stA (wrap64 ((wrap64 (t + 1)) + _)) (wrap64 (n + 1)) s) (0, 0) _ (show StB _ _ _ _ _ _ _ (stA (wrap64 ((wrap64 (t + 1)) + _)) (wrap64 (n + 1)) s) _ from (hB2.out).put 0 _ rfl).bs Try.underlying73 rfl (by kernel_rfl) ?_) | ((with_reducible refine gate_store (t := 73) (p := 6) rfl ?_); refine wpList_store_row rfl 73 (.tmp 6) (.tmp 176) rfl gr (stA (wrap64 ((wrap64 (t + 1)) + _)) (wrap64 (n + 1)) s) rfl rfl 73 _ (show StB _ _ _ _ _ _ _ (stA (wrap64 ((wrap64 (t + 1)) + _)) (wrap64 (n + 1)) s) _ from (hB2.out).put 0 _ rfl).br (by kernel_rfl) rfl (stA_one _ _ _) ?_))
    refine bodyPost_ret (results_cell_row rfl _ _ gr 73 (stA (wrap64 ((wrap64 (t + 1)) + _)) (wrap64 (n + 1)) s) (0, 0) _ rfl (setRow_heap _ _ _ _ _ _ (show StB _ _ _ _ _ _ _ (stA (wrap64 ((wrap64 (t + 1)) + _)) (wrap64 (n + 1)) s) _ from (hB2.out).put 0 _ rfl).br) Try.underlying73 rfl (by kernel_rfl)) rfl ?_
    exact ⟨rfl, step_setRow (show StB _ _ _ _ _ _ _ (stA (wrap64 ((wrap64 (t + 1)) + _)) (wrap64 (n + 1)) s) _ from (hB2.out).put 0 _ rfl).below (by first | exact hB2.out.gr0 | exact hB.out.gr0) _⟩
set_option maxHeartbeats 8000000 in
set_option maxRecDepth 100000 in
theorem fairleadref06_Step.jx (k : Nat) (A0 : Option Addr) (c0 : Nat) (l0 : List S53) (d0 d1 d2 d3 d4 d5 d6 d7 d8 t n jt jf K : Int) (c q z : Int) (b : Bool) (s : StS) (w : World) (hr0 : Kd.C k53 w A0 l0.length l0) (hc0 : l0.length ≤ c0) (ht : 0 ≤ t) (ht1 : t < l0.length) (hx : rd_T53 l0 t = ⟨c, jt, jf, K⟩) (hc : (c = 29 ∧ q = 21 ∧ b = true ∧ z = wrap64 jt) ∨ (c = 29 ∧ q = 21 ∧ b = false ∧ z = wrap64 jf) ∨ (c = 45 ∧ q = 37 ∧ b = true ∧ z = wrap64 jt) ∨ (c = 45 ∧ q = 37 ∧ b = false ∧ z = wrap64 jf) ∨ (c = 61 ∧ q = 53 ∧ b = true ∧ z = wrap64 jt) ∨ (c = 61 ∧ q = 53 ∧ b = false ∧ z = wrap64 jf) ∨ (c = 77 ∧ q = 69 ∧ b = true ∧ z = wrap64 jt) ∨ (c = 77 ∧ q = 69 ∧ b = false ∧ z = wrap64 jf)) (hL : fairleadref06_holds.f q s.a s.x = some b) :
  Calls Try.prog 35 #[.slice A0 l0.length c0, .agg #[.int .u32 d0, .int .u32 d1, .int .u64 d2, .int .u64 d3, .int .u64 d4, .int .u64 d5, .int .u64 d6, .int .u64 d7, .int .u64 d8], .agg (stA t n s)] w fun e w' => e = .returned (.agg (stA (wrap64 ((wrap64 (t + 1)) + z)) (wrap64 (n + 1)) s)) ∧ Below w.heap.size w w' := by
  have hu27_ := Try.underlying27
  have hu56_ := Try.underlying73
  have hu37_ := Try.underlying53
  have HR0 := Aside0.mk hr0
  have HC0 := Aside0.mk hc0
  clear hr0 hc0
  rcases hc with ⟨rfl, rfl, rfl, rfl⟩ | ⟨rfl, rfl, rfl, rfl⟩ | ⟨rfl, rfl, rfl, rfl⟩ | ⟨rfl, rfl, rfl, rfl⟩ | ⟨rfl, rfl, rfl, rfl⟩ | ⟨rfl, rfl, rfl, rfl⟩ | ⟨rfl, rfl, rfl, rfl⟩ | ⟨rfl, rfl, rfl, rfl⟩
  all_goals
    have hL' := Aside0.mk hL
    clear hL
    go_enter Try.func35, Try.ntmps35
    go_upto_region 6 with (first | ((with_reducible refine gate_dst (N := 4) rfl ?_); refine box_event ?hg (N := 4) ?hd (cs := #[.int .u32 d0, .int .u32 d1, .int .u64 d2, .int .u64 d3, .int .u64 d4, .int .u64 d5, .int .u64 d6, .int .u64 d7, .int .u64 d8]) (t := 27) ?hr ?_; (case hd => rfl); (case hg => rfl); (case hr => first | (go_simp; done) | (go_simp; rfl)); intro gd hg w1 hbox hb; have GD := Aside0.mk hg; have B1 := Aside0.mk hbox; have W1 := Aside0.mk hb; clear hg hbox hb) | ((with_reducible refine gate_dst (N := 5) rfl ?_); refine box_event ?hg (N := 5) ?hd (cs := #[.int .i64 (t), .int .i64 (n), .int .u32 s.a, .int .u32 s.x, .int .u32 (s.C 0), .int .u32 (s.C 1), .int .u32 (s.C 2), .int .u32 (s.C 3), .int .u32 (s.C 4), .int .u32 (s.C 5), .int .u32 (s.C 6), .int .u32 (s.C 7), .int .u32 (s.C 8), .int .u32 (s.C 9), .int .u32 (s.C 10), .int .u32 (s.C 11), .int .u32 (s.C 12), .int .u32 (s.C 13), .int .u32 (s.C 14), .int .u32 (s.C 15), .bool s.o, .int .u32 s.r]) (t := 73) ?hr ?_; (case hd => rfl); (case hg => rfl); (case hr => first | (go_simp; done) | (go_simp; rfl)); intro gs hg w2 hbox hb; have GS := Aside0.mk hg; have B2 := Aside0.mk hbox; have W2 := Aside0.mk hb; clear hg hbox hb) | ((with_reducible refine gate_dst (N := 6) rfl ?_); refine box_event ?hg (N := 6) ?hd (cs := #[.int .i64 0, .int .i64 0, .int .u32 0, .int .u32 0, .int .u32 0, .int .u32 0, .int .u32 0, .int .u32 0, .int .u32 0, .int .u32 0, .int .u32 0, .int .u32 0, .int .u32 0, .int .u32 0, .int .u32 0, .int .u32 0, .int .u32 0, .int .u32 0, .int .u32 0, .int .u32 0, .bool false, .int .u32 0]) (t := 73) ?hr ?_; (case hd => rfl); (case hg => rfl); (case hr => first | (go_simp; done) | (go_simp; rfl)); intro gr hg w3 hbox hb; have GR := Aside0.mk hg; have B3 := Aside0.mk hbox; have W3 := Aside0.mk hb; clear hg hbox hb; have HS := Aside0.mk (blk_below B2.out W3.out); have hq0 := (blk_cell HS.out 0).trans rfl; obtain ⟨ad, rfl, hx0, hx1, hx2, hx3⟩ := at_T53 HR0.out t ht ht1; rw [hx] at hx0 hx1 hx2 hx3; simp only at hx0 hx1 hx2 hx3; have WW := Aside0.mk (below_step (below_step (below_step (Below.refl w.heap.size w) W1.out) W2.out) W3.out); replace hx0 := (WW.out.cell (World.block_lt_of_cell? w _ hx0)).trans hx0; replace hx1 := (WW.out.cell (World.block_lt_of_cell? w _ hx1)).trans hx1; replace hx2 := (WW.out.cell (World.block_lt_of_cell? w _ hx2)).trans hx2; replace hx3 := (WW.out.cell (World.block_lt_of_cell? w _ hx3)).trans hx3; have p0 := decide_eq_true ht; have p1 := decide_eq_true ht1) | ((with_reducible refine gate_dst (N := 7) rfl ?_); refine box_event ?hg (N := 7) ?hd (cs := #[.int .u16 0, .int .u8 0, .int .u8 0, .int .u32 0]) (t := 53) ?hr ?_; (case hd => rfl); (case hg => rfl); (case hr => first | (go_simp; done) | (go_simp; rfl)); intro gx hg w4 hbox hb; have GX := Aside0.mk hg; have B4 := Aside0.mk hbox; have W4 := Aside0.mk hb; clear hg hbox hb; have hne : gs ≠ gx := (by rw [GX.out]; exact Nat.ne_of_lt (blk_lt HS.out)); have HS := Aside0.mk (blk_below HS.out W4.out); have hq0 := (blk_cell HS.out 0).trans rfl; have hq1 := (blk_cell HS.out 1).trans rfl; have hf0 := blk_frozen HS.out 0; have hf1 := blk_frozen HS.out 1; have hf2 := blk_frozen B4.out 0; have hf3 := blk_frozen B4.out 1; have hf4 := blk_frozen B4.out 2; have hf5 := blk_frozen B4.out 3; have hg0 := (blk_cell B4.out 0).trans rfl; have hg1 := (blk_cell B4.out 1).trans rfl; have hg2 := (blk_cell B4.out 2).trans rfl; have hg3 := (blk_cell B4.out 3).trans rfl))
    (try simp only [Act.put, List.setIfInBounds_toArray, List.set_cons_zero, List.set_cons_succ])
    refine step_gen (R := fun wc => StB w wc gd gs gr gx #[.int .u32 d0, .int .u32 d1, .int .u64 d2, .int .u64 d3, .int .u64 d4, .int .u64 d5, .int .u64 d6, .int .u64 d7, .int .u64 d8] (stA (wrap64 (t + 1)) (wrap64 (n + 1)) s) _) (step_made B1.out B2.out B3.out B4.out W1.out W2.out W3.out W4.out GD.out GS.out GR.out GX.out _ jt jf K) (fun wc hB0 => ?_)
    have hB := Aside0.mk hB0
    clear hB0
    clear hx0 hx1 hx2 hx3 hq0 hq1 hf0 hf1 hf2 hf3 hf4 hf5 hg0 hg1 hg2 hg3 hne p0 p1 B1 B2 B3 B4 W1 W2 W3 W4 GD GS GR GX HS WW HR0 HC0
    have n1 := hB.out.sd
    have n2 := hB.out.sr
    have n3 := hB.out.sx
    have n4 := hB.out.sr.symm
    have n5 := hB.out.sx.symm
    have fs := fun j => blk_frozen hB.out.bs j
    have z0 : wc.cell? ⟨gs, 0, none⟩ = some (.int .i64 (wrap64 (t + 1))) := (blk_cell hB.out.bs 0).trans rfl
    have z2 : wc.cell? ⟨gs, 2, none⟩ = some (.int .u32 s.a) := (blk_cell hB.out.bs 2).trans rfl
    have z3 : wc.cell? ⟨gs, 3, none⟩ = some (.int .u32 s.x) := (blk_cell hB.out.bs 3).trans rfl
    have z20 : wc.cell? ⟨gs, 20, none⟩ = some (.bool s.o) := (blk_cell hB.out.bs 20).trans rfl
    have z21 : wc.cell? ⟨gs, 21, none⟩ = some (.int .u32 s.r) := (blk_cell hB.out.bs 21).trans rfl
    have x1 : wc.cell? ⟨gx, 1, none⟩ = some (.int .u8 jt) := (blk_cell hB.out.bx 1).trans rfl
    have x2 : wc.cell? ⟨gx, 2, none⟩ = some (.int .u8 jf) := (blk_cell hB.out.bx 2).trans rfl
    have x3 : wc.cell? ⟨gx, 3, none⟩ = some (.int .u32 K) := (blk_cell hB.out.bx 3).trans rfl
    go_wp2_with (first | ((go_at_call 44; (refine (fairleadref06_holds.calls _ s.a s.x _ _ hL'.out).mono ?_); rintro e w2 ⟨rfl, hd⟩; have hB2 := Aside0.mk (hB.out.call (hd.below)); clear hd z0 z2 z3 z20 z21 x1 x2 x3 fs hB; have z0 : w2.cell? ⟨gs, 0, none⟩ = some (.int .i64 (wrap64 (t + 1))) := (blk_cell hB2.out.bs 0).trans rfl; have z2 : w2.cell? ⟨gs, 2, none⟩ = some (.int .u32 s.a) := (blk_cell hB2.out.bs 2).trans rfl; have x1 : w2.cell? ⟨gx, 1, none⟩ = some (.int .u8 jt) := (blk_cell hB2.out.bx 1).trans rfl; have x2 : w2.cell? ⟨gx, 2, none⟩ = some (.int .u8 jf) := (blk_cell hB2.out.bx 2).trans rfl; have fs := fun j => blk_frozen hB2.out.bs j)) | ((with_reducible refine gate_dst (N := 176) rfl ?_); refine wpList_load_row rfl 73 (.tmp 5) rfl gs rfl 73 (stA (wrap64 ((wrap64 (t + 1)) + _)) (wrap64 (n + 1)) s) (0, 0) _ (show StB _ _ _ _ _ _ _ (stA (wrap64 ((wrap64 (t + 1)) + _)) (wrap64 (n + 1)) s) _ from (hB2.out).put 0 _ rfl).bs Try.underlying73 rfl (by kernel_rfl) ?_) | ((with_reducible refine gate_store (t := 73) (p := 6) rfl ?_); refine wpList_store_row rfl 73 (.tmp 6) (.tmp 176) rfl gr (stA (wrap64 ((wrap64 (t + 1)) + _)) (wrap64 (n + 1)) s) rfl rfl 73 _ (show StB _ _ _ _ _ _ _ (stA (wrap64 ((wrap64 (t + 1)) + _)) (wrap64 (n + 1)) s) _ from (hB2.out).put 0 _ rfl).br (by kernel_rfl) rfl (stA_one _ _ _) ?_))
    refine bodyPost_ret (results_cell_row rfl _ _ gr 73 (stA (wrap64 ((wrap64 (t + 1)) + _)) (wrap64 (n + 1)) s) (0, 0) _ rfl (setRow_heap _ _ _ _ _ _ (show StB _ _ _ _ _ _ _ (stA (wrap64 ((wrap64 (t + 1)) + _)) (wrap64 (n + 1)) s) _ from (hB2.out).put 0 _ rfl).br) Try.underlying73 rfl (by kernel_rfl)) rfl ?_
    exact ⟨rfl, step_setRow (show StB _ _ _ _ _ _ _ (stA (wrap64 ((wrap64 (t + 1)) + _)) (wrap64 (n + 1)) s) _ from (hB2.out).put 0 _ rfl).below (by first | exact hB2.out.gr0 | exact hB.out.gr0) _⟩
set_option maxHeartbeats 8000000 in
set_option maxRecDepth 100000 in
theorem fairleadref06_Step.rk (k : Nat) (A0 : Option Addr) (c0 : Nat) (l0 : List S53) (d0 d1 d2 d3 d4 d5 d6 d7 d8 t n jt jf K : Int) (c v : Int) (s : StS) (w : World) (hr0 : Kd.C k53 w A0 l0.length l0) (hc0 : l0.length ≤ c0) (ht : 0 ≤ t) (ht1 : t < l0.length) (hx : rd_T53 l0 t = ⟨c, jt, jf, K⟩) (hc : c = 4 ∨ c = 20 ∨ c = 36 ∨ c = 68 ∨ c = 84 ∨ c = 100 ∨ c = 116 ∨ c = 164) (hL : fairleadref06_reckon.f k c s.a K = some v) :
  Calls Try.prog 35 #[.slice A0 l0.length c0, .agg #[.int .u32 d0, .int .u32 d1, .int .u64 d2, .int .u64 d3, .int .u64 d4, .int .u64 d5, .int .u64 d6, .int .u64 d7, .int .u64 d8], .agg (stA t n s)] w fun e w' => e = .returned (.agg (stA (wrap64 (t + 1)) (wrap64 (n + 1)) { s with a := v })) ∧ Below w.heap.size w w' := by
  have hu27_ := Try.underlying27
  have hu56_ := Try.underlying73
  have hu37_ := Try.underlying53
  have HR0 := Aside0.mk hr0
  have HC0 := Aside0.mk hc0
  clear hr0 hc0
  rcases hc with rfl | rfl | rfl | rfl | rfl | rfl | rfl | rfl
  all_goals
    have hL' := Aside0.mk hL
    clear hL
    go_enter Try.func35, Try.ntmps35
    go_upto_region 6 with (first | ((with_reducible refine gate_dst (N := 4) rfl ?_); refine box_event ?hg (N := 4) ?hd (cs := #[.int .u32 d0, .int .u32 d1, .int .u64 d2, .int .u64 d3, .int .u64 d4, .int .u64 d5, .int .u64 d6, .int .u64 d7, .int .u64 d8]) (t := 27) ?hr ?_; (case hd => rfl); (case hg => rfl); (case hr => first | (go_simp; done) | (go_simp; rfl)); intro gd hg w1 hbox hb; have GD := Aside0.mk hg; have B1 := Aside0.mk hbox; have W1 := Aside0.mk hb; clear hg hbox hb) | ((with_reducible refine gate_dst (N := 5) rfl ?_); refine box_event ?hg (N := 5) ?hd (cs := #[.int .i64 (t), .int .i64 (n), .int .u32 s.a, .int .u32 s.x, .int .u32 (s.C 0), .int .u32 (s.C 1), .int .u32 (s.C 2), .int .u32 (s.C 3), .int .u32 (s.C 4), .int .u32 (s.C 5), .int .u32 (s.C 6), .int .u32 (s.C 7), .int .u32 (s.C 8), .int .u32 (s.C 9), .int .u32 (s.C 10), .int .u32 (s.C 11), .int .u32 (s.C 12), .int .u32 (s.C 13), .int .u32 (s.C 14), .int .u32 (s.C 15), .bool s.o, .int .u32 s.r]) (t := 73) ?hr ?_; (case hd => rfl); (case hg => rfl); (case hr => first | (go_simp; done) | (go_simp; rfl)); intro gs hg w2 hbox hb; have GS := Aside0.mk hg; have B2 := Aside0.mk hbox; have W2 := Aside0.mk hb; clear hg hbox hb) | ((with_reducible refine gate_dst (N := 6) rfl ?_); refine box_event ?hg (N := 6) ?hd (cs := #[.int .i64 0, .int .i64 0, .int .u32 0, .int .u32 0, .int .u32 0, .int .u32 0, .int .u32 0, .int .u32 0, .int .u32 0, .int .u32 0, .int .u32 0, .int .u32 0, .int .u32 0, .int .u32 0, .int .u32 0, .int .u32 0, .int .u32 0, .int .u32 0, .int .u32 0, .int .u32 0, .bool false, .int .u32 0]) (t := 73) ?hr ?_; (case hd => rfl); (case hg => rfl); (case hr => first | (go_simp; done) | (go_simp; rfl)); intro gr hg w3 hbox hb; have GR := Aside0.mk hg; have B3 := Aside0.mk hbox; have W3 := Aside0.mk hb; clear hg hbox hb; have HS := Aside0.mk (blk_below B2.out W3.out); have hq0 := (blk_cell HS.out 0).trans rfl; obtain ⟨ad, rfl, hx0, hx1, hx2, hx3⟩ := at_T53 HR0.out t ht ht1; rw [hx] at hx0 hx1 hx2 hx3; simp only at hx0 hx1 hx2 hx3; have WW := Aside0.mk (below_step (below_step (below_step (Below.refl w.heap.size w) W1.out) W2.out) W3.out); replace hx0 := (WW.out.cell (World.block_lt_of_cell? w _ hx0)).trans hx0; replace hx1 := (WW.out.cell (World.block_lt_of_cell? w _ hx1)).trans hx1; replace hx2 := (WW.out.cell (World.block_lt_of_cell? w _ hx2)).trans hx2; replace hx3 := (WW.out.cell (World.block_lt_of_cell? w _ hx3)).trans hx3; have p0 := decide_eq_true ht; have p1 := decide_eq_true ht1) | ((with_reducible refine gate_dst (N := 7) rfl ?_); refine box_event ?hg (N := 7) ?hd (cs := #[.int .u16 0, .int .u8 0, .int .u8 0, .int .u32 0]) (t := 53) ?hr ?_; (case hd => rfl); (case hg => rfl); (case hr => first | (go_simp; done) | (go_simp; rfl)); intro gx hg w4 hbox hb; have GX := Aside0.mk hg; have B4 := Aside0.mk hbox; have W4 := Aside0.mk hb; clear hg hbox hb; have hne : gs ≠ gx := (by rw [GX.out]; exact Nat.ne_of_lt (blk_lt HS.out)); have HS := Aside0.mk (blk_below HS.out W4.out); have hq0 := (blk_cell HS.out 0).trans rfl; have hq1 := (blk_cell HS.out 1).trans rfl; have hf0 := blk_frozen HS.out 0; have hf1 := blk_frozen HS.out 1; have hf2 := blk_frozen B4.out 0; have hf3 := blk_frozen B4.out 1; have hf4 := blk_frozen B4.out 2; have hf5 := blk_frozen B4.out 3; have hg0 := (blk_cell B4.out 0).trans rfl; have hg1 := (blk_cell B4.out 1).trans rfl; have hg2 := (blk_cell B4.out 2).trans rfl; have hg3 := (blk_cell B4.out 3).trans rfl))
    (try simp only [Act.put, List.setIfInBounds_toArray, List.set_cons_zero, List.set_cons_succ])
    refine step_gen (R := fun wc => StB w wc gd gs gr gx #[.int .u32 d0, .int .u32 d1, .int .u64 d2, .int .u64 d3, .int .u64 d4, .int .u64 d5, .int .u64 d6, .int .u64 d7, .int .u64 d8] (stA (wrap64 (t + 1)) (wrap64 (n + 1)) s) _) (step_made B1.out B2.out B3.out B4.out W1.out W2.out W3.out W4.out GD.out GS.out GR.out GX.out _ jt jf K) (fun wc hB0 => ?_)
    have hB := Aside0.mk hB0
    clear hB0
    clear hx0 hx1 hx2 hx3 hq0 hq1 hf0 hf1 hf2 hf3 hf4 hf5 hg0 hg1 hg2 hg3 hne p0 p1 B1 B2 B3 B4 W1 W2 W3 W4 GD GS GR GX HS WW HR0 HC0
    have n1 := hB.out.sd
    have n2 := hB.out.sr
    have n3 := hB.out.sx
    have n4 := hB.out.sr.symm
    have n5 := hB.out.sx.symm
    have fs := fun j => blk_frozen hB.out.bs j
    have z0 : wc.cell? ⟨gs, 0, none⟩ = some (.int .i64 (wrap64 (t + 1))) := (blk_cell hB.out.bs 0).trans rfl
    have z2 : wc.cell? ⟨gs, 2, none⟩ = some (.int .u32 s.a) := (blk_cell hB.out.bs 2).trans rfl
    have z3 : wc.cell? ⟨gs, 3, none⟩ = some (.int .u32 s.x) := (blk_cell hB.out.bs 3).trans rfl
    have z20 : wc.cell? ⟨gs, 20, none⟩ = some (.bool s.o) := (blk_cell hB.out.bs 20).trans rfl
    have z21 : wc.cell? ⟨gs, 21, none⟩ = some (.int .u32 s.r) := (blk_cell hB.out.bs 21).trans rfl
    have x1 : wc.cell? ⟨gx, 1, none⟩ = some (.int .u8 jt) := (blk_cell hB.out.bx 1).trans rfl
    have x2 : wc.cell? ⟨gx, 2, none⟩ = some (.int .u8 jf) := (blk_cell hB.out.bx 2).trans rfl
    have x3 : wc.cell? ⟨gx, 3, none⟩ = some (.int .u32 K) := (blk_cell hB.out.bx 3).trans rfl
    go_wp2_with (first | ((go_at_call 45; (refine (fairleadref06_reckon.calls k _ s.a K v _ hL'.out).mono ?_); rintro e w2 ⟨rfl, hd⟩; have hB2 := Aside0.mk (hB.out.call (hd.below)); clear hd z0 z2 z3 z20 z21 x1 x2 x3 fs hB; have z0 : w2.cell? ⟨gs, 0, none⟩ = some (.int .i64 (wrap64 (t + 1))) := (blk_cell hB2.out.bs 0).trans rfl; have z2 : w2.cell? ⟨gs, 2, none⟩ = some (.int .u32 s.a) := (blk_cell hB2.out.bs 2).trans rfl; have x1 : w2.cell? ⟨gx, 1, none⟩ = some (.int .u8 jt) := (blk_cell hB2.out.bx 1).trans rfl; have x2 : w2.cell? ⟨gx, 2, none⟩ = some (.int .u8 jf) := (blk_cell hB2.out.bx 2).trans rfl; have fs := fun j => blk_frozen hB2.out.bs j)) | ((with_reducible refine gate_dst (N := 176) rfl ?_); refine wpList_load_row rfl 73 (.tmp 5) rfl gs rfl 73 (stA (wrap64 (t + 1)) (wrap64 (n + 1)) { s with a := v }) (0, 0) _ (show StB _ _ _ _ _ _ _ (stA (wrap64 (t + 1)) (wrap64 (n + 1)) { s with a := v }) _ from (hB2.out).put 2 _ rfl).bs Try.underlying73 rfl (by kernel_rfl) ?_) | ((with_reducible refine gate_store (t := 73) (p := 6) rfl ?_); refine wpList_store_row rfl 73 (.tmp 6) (.tmp 176) rfl gr (stA (wrap64 (t + 1)) (wrap64 (n + 1)) { s with a := v }) rfl rfl 73 _ (show StB _ _ _ _ _ _ _ (stA (wrap64 (t + 1)) (wrap64 (n + 1)) { s with a := v }) _ from (hB2.out).put 2 _ rfl).br (by kernel_rfl) rfl (stA_one _ _ _) ?_))
    refine bodyPost_ret (results_cell_row rfl _ _ gr 73 (stA (wrap64 (t + 1)) (wrap64 (n + 1)) { s with a := v }) (0, 0) _ rfl (setRow_heap _ _ _ _ _ _ (show StB _ _ _ _ _ _ _ (stA (wrap64 (t + 1)) (wrap64 (n + 1)) { s with a := v }) _ from (hB2.out).put 2 _ rfl).br) Try.underlying73 rfl (by kernel_rfl)) rfl ?_
    exact ⟨rfl, step_setRow (show StB _ _ _ _ _ _ _ (stA (wrap64 (t + 1)) (wrap64 (n + 1)) { s with a := v }) _ from (hB2.out).put 2 _ rfl).below (by first | exact hB2.out.gr0 | exact hB.out.gr0) _⟩
set_option maxHeartbeats 8000000 in
set_option maxRecDepth 100000 in
theorem fairleadref06_Step.rx (k : Nat) (A0 : Option Addr) (c0 : Nat) (l0 : List S53) (d0 d1 d2 d3 d4 d5 d6 d7 d8 t n jt jf K : Int) (c q v : Int) (s : StS) (w : World) (hr0 : Kd.C k53 w A0 l0.length l0) (hc0 : l0.length ≤ c0) (ht : 0 ≤ t) (ht1 : t < l0.length) (hx : rd_T53 l0 t = ⟨c, jt, jf, K⟩) (hc : (c = 12 ∧ q = 4) ∨ (c = 28 ∧ q = 20) ∨ (c = 44 ∧ q = 36) ∨ (c = 76 ∧ q = 68) ∨ (c = 92 ∧ q = 84) ∨ (c = 108 ∧ q = 100) ∨ (c = 124 ∧ q = 116) ∨ (c = 172 ∧ q = 164)) (hL : fairleadref06_reckon.f k q s.a s.x = some v) :
  Calls Try.prog 35 #[.slice A0 l0.length c0, .agg #[.int .u32 d0, .int .u32 d1, .int .u64 d2, .int .u64 d3, .int .u64 d4, .int .u64 d5, .int .u64 d6, .int .u64 d7, .int .u64 d8], .agg (stA t n s)] w fun e w' => e = .returned (.agg (stA (wrap64 (t + 1)) (wrap64 (n + 1)) { s with a := v })) ∧ Below w.heap.size w w' := by
  have hu27_ := Try.underlying27
  have hu56_ := Try.underlying73
  have hu37_ := Try.underlying53
  have HR0 := Aside0.mk hr0
  have HC0 := Aside0.mk hc0
  clear hr0 hc0
  rcases hc with ⟨rfl, rfl⟩ | ⟨rfl, rfl⟩ | ⟨rfl, rfl⟩ | ⟨rfl, rfl⟩ | ⟨rfl, rfl⟩ | ⟨rfl, rfl⟩ | ⟨rfl, rfl⟩ | ⟨rfl, rfl⟩
  all_goals
    have hL' := Aside0.mk hL
    clear hL
    go_enter Try.func35, Try.ntmps35
    go_upto_region 6 with (first | ((with_reducible refine gate_dst (N := 4) rfl ?_); refine box_event ?hg (N := 4) ?hd (cs := #[.int .u32 d0, .int .u32 d1, .int .u64 d2, .int .u64 d3, .int .u64 d4, .int .u64 d5, .int .u64 d6, .int .u64 d7, .int .u64 d8]) (t := 27) ?hr ?_; (case hd => rfl); (case hg => rfl); (case hr => first | (go_simp; done) | (go_simp; rfl)); intro gd hg w1 hbox hb; have GD := Aside0.mk hg; have B1 := Aside0.mk hbox; have W1 := Aside0.mk hb; clear hg hbox hb) | ((with_reducible refine gate_dst (N := 5) rfl ?_); refine box_event ?hg (N := 5) ?hd (cs := #[.int .i64 (t), .int .i64 (n), .int .u32 s.a, .int .u32 s.x, .int .u32 (s.C 0), .int .u32 (s.C 1), .int .u32 (s.C 2), .int .u32 (s.C 3), .int .u32 (s.C 4), .int .u32 (s.C 5), .int .u32 (s.C 6), .int .u32 (s.C 7), .int .u32 (s.C 8), .int .u32 (s.C 9), .int .u32 (s.C 10), .int .u32 (s.C 11), .int .u32 (s.C 12), .int .u32 (s.C 13), .int .u32 (s.C 14), .int .u32 (s.C 15), .bool s.o, .int .u32 s.r]) (t := 73) ?hr ?_; (case hd => rfl); (case hg => rfl); (case hr => first | (go_simp; done) | (go_simp; rfl)); intro gs hg w2 hbox hb; have GS := Aside0.mk hg; have B2 := Aside0.mk hbox; have W2 := Aside0.mk hb; clear hg hbox hb) | ((with_reducible refine gate_dst (N := 6) rfl ?_); refine box_event ?hg (N := 6) ?hd (cs := #[.int .i64 0, .int .i64 0, .int .u32 0, .int .u32 0, .int .u32 0, .int .u32 0, .int .u32 0, .int .u32 0, .int .u32 0, .int .u32 0, .int .u32 0, .int .u32 0, .int .u32 0, .int .u32 0, .int .u32 0, .int .u32 0, .int .u32 0, .int .u32 0, .int .u32 0, .int .u32 0, .bool false, .int .u32 0]) (t := 73) ?hr ?_; (case hd => rfl); (case hg => rfl); (case hr => first | (go_simp; done) | (go_simp; rfl)); intro gr hg w3 hbox hb; have GR := Aside0.mk hg; have B3 := Aside0.mk hbox; have W3 := Aside0.mk hb; clear hg hbox hb; have HS := Aside0.mk (blk_below B2.out W3.out); have hq0 := (blk_cell HS.out 0).trans rfl; obtain ⟨ad, rfl, hx0, hx1, hx2, hx3⟩ := at_T53 HR0.out t ht ht1; rw [hx] at hx0 hx1 hx2 hx3; simp only at hx0 hx1 hx2 hx3; have WW := Aside0.mk (below_step (below_step (below_step (Below.refl w.heap.size w) W1.out) W2.out) W3.out); replace hx0 := (WW.out.cell (World.block_lt_of_cell? w _ hx0)).trans hx0; replace hx1 := (WW.out.cell (World.block_lt_of_cell? w _ hx1)).trans hx1; replace hx2 := (WW.out.cell (World.block_lt_of_cell? w _ hx2)).trans hx2; replace hx3 := (WW.out.cell (World.block_lt_of_cell? w _ hx3)).trans hx3; have p0 := decide_eq_true ht; have p1 := decide_eq_true ht1) | ((with_reducible refine gate_dst (N := 7) rfl ?_); refine box_event ?hg (N := 7) ?hd (cs := #[.int .u16 0, .int .u8 0, .int .u8 0, .int .u32 0]) (t := 53) ?hr ?_; (case hd => rfl); (case hg => rfl); (case hr => first | (go_simp; done) | (go_simp; rfl)); intro gx hg w4 hbox hb; have GX := Aside0.mk hg; have B4 := Aside0.mk hbox; have W4 := Aside0.mk hb; clear hg hbox hb; have hne : gs ≠ gx := (by rw [GX.out]; exact Nat.ne_of_lt (blk_lt HS.out)); have HS := Aside0.mk (blk_below HS.out W4.out); have hq0 := (blk_cell HS.out 0).trans rfl; have hq1 := (blk_cell HS.out 1).trans rfl; have hf0 := blk_frozen HS.out 0; have hf1 := blk_frozen HS.out 1; have hf2 := blk_frozen B4.out 0; have hf3 := blk_frozen B4.out 1; have hf4 := blk_frozen B4.out 2; have hf5 := blk_frozen B4.out 3; have hg0 := (blk_cell B4.out 0).trans rfl; have hg1 := (blk_cell B4.out 1).trans rfl; have hg2 := (blk_cell B4.out 2).trans rfl; have hg3 := (blk_cell B4.out 3).trans rfl))
    (try simp only [Act.put, List.setIfInBounds_toArray, List.set_cons_zero, List.set_cons_succ])
    refine step_gen (R := fun wc => StB w wc gd gs gr gx #[.int .u32 d0, .int .u32 d1, .int .u64 d2, .int .u64 d3, .int .u64 d4, .int .u64 d5, .int .u64 d6, .int .u64 d7, .int .u64 d8] (stA (wrap64 (t + 1)) (wrap64 (n + 1)) s) _) (step_made B1.out B2.out B3.out B4.out W1.out W2.out W3.out W4.out GD.out GS.out GR.out GX.out _ jt jf K) (fun wc hB0 => ?_)
    have hB := Aside0.mk hB0
    clear hB0
    clear hx0 hx1 hx2 hx3 hq0 hq1 hf0 hf1 hf2 hf3 hf4 hf5 hg0 hg1 hg2 hg3 hne p0 p1 B1 B2 B3 B4 W1 W2 W3 W4 GD GS GR GX HS WW HR0 HC0
    have n1 := hB.out.sd
    have n2 := hB.out.sr
    have n3 := hB.out.sx
    have n4 := hB.out.sr.symm
    have n5 := hB.out.sx.symm
    have fs := fun j => blk_frozen hB.out.bs j
    have z0 : wc.cell? ⟨gs, 0, none⟩ = some (.int .i64 (wrap64 (t + 1))) := (blk_cell hB.out.bs 0).trans rfl
    have z2 : wc.cell? ⟨gs, 2, none⟩ = some (.int .u32 s.a) := (blk_cell hB.out.bs 2).trans rfl
    have z3 : wc.cell? ⟨gs, 3, none⟩ = some (.int .u32 s.x) := (blk_cell hB.out.bs 3).trans rfl
    have z20 : wc.cell? ⟨gs, 20, none⟩ = some (.bool s.o) := (blk_cell hB.out.bs 20).trans rfl
    have z21 : wc.cell? ⟨gs, 21, none⟩ = some (.int .u32 s.r) := (blk_cell hB.out.bs 21).trans rfl
    have x1 : wc.cell? ⟨gx, 1, none⟩ = some (.int .u8 jt) := (blk_cell hB.out.bx 1).trans rfl
    have x2 : wc.cell? ⟨gx, 2, none⟩ = some (.int .u8 jf) := (blk_cell hB.out.bx 2).trans rfl
    have x3 : wc.cell? ⟨gx, 3, none⟩ = some (.int .u32 K) := (blk_cell hB.out.bx 3).trans rfl
    go_wp2_with (first | ((go_at_call 45; (refine (fairleadref06_reckon.calls k _ s.a s.x v _ hL'.out).mono ?_); rintro e w2 ⟨rfl, hd⟩; have hB2 := Aside0.mk (hB.out.call (hd.below)); clear hd z0 z2 z3 z20 z21 x1 x2 x3 fs hB; have z0 : w2.cell? ⟨gs, 0, none⟩ = some (.int .i64 (wrap64 (t + 1))) := (blk_cell hB2.out.bs 0).trans rfl; have z2 : w2.cell? ⟨gs, 2, none⟩ = some (.int .u32 s.a) := (blk_cell hB2.out.bs 2).trans rfl; have x1 : w2.cell? ⟨gx, 1, none⟩ = some (.int .u8 jt) := (blk_cell hB2.out.bx 1).trans rfl; have x2 : w2.cell? ⟨gx, 2, none⟩ = some (.int .u8 jf) := (blk_cell hB2.out.bx 2).trans rfl; have fs := fun j => blk_frozen hB2.out.bs j)) | ((with_reducible refine gate_dst (N := 176) rfl ?_); refine wpList_load_row rfl 73 (.tmp 5) rfl gs rfl 73 (stA (wrap64 (t + 1)) (wrap64 (n + 1)) { s with a := v }) (0, 0) _ (show StB _ _ _ _ _ _ _ (stA (wrap64 (t + 1)) (wrap64 (n + 1)) { s with a := v }) _ from (hB2.out).put 2 _ rfl).bs Try.underlying73 rfl (by kernel_rfl) ?_) | ((with_reducible refine gate_store (t := 73) (p := 6) rfl ?_); refine wpList_store_row rfl 73 (.tmp 6) (.tmp 176) rfl gr (stA (wrap64 (t + 1)) (wrap64 (n + 1)) { s with a := v }) rfl rfl 73 _ (show StB _ _ _ _ _ _ _ (stA (wrap64 (t + 1)) (wrap64 (n + 1)) { s with a := v }) _ from (hB2.out).put 2 _ rfl).br (by kernel_rfl) rfl (stA_one _ _ _) ?_))
    refine bodyPost_ret (results_cell_row rfl _ _ gr 73 (stA (wrap64 (t + 1)) (wrap64 (n + 1)) { s with a := v }) (0, 0) _ rfl (setRow_heap _ _ _ _ _ _ (show StB _ _ _ _ _ _ _ (stA (wrap64 (t + 1)) (wrap64 (n + 1)) { s with a := v }) _ from (hB2.out).put 2 _ rfl).br) Try.underlying73 rfl (by kernel_rfl)) rfl ?_
    exact ⟨rfl, step_setRow (show StB _ _ _ _ _ _ _ (stA (wrap64 (t + 1)) (wrap64 (n + 1)) { s with a := v }) _ from (hB2.out).put 2 _ rfl).below (by first | exact hB2.out.gr0 | exact hB.out.gr0) _⟩
set_option maxHeartbeats 8000000 in
set_option maxRecDepth 100000 in
theorem fairleadref06_Step.dk (k : Nat) (A0 : Option Addr) (c0 : Nat) (l0 : List S53) (d0 d1 d2 d3 d4 d5 d6 d7 d8 t n jt jf K : Int) (v : Int) (s : StS) (w : World) (hr0 : Kd.C k53 w A0 l0.length l0) (hc0 : l0.length ≤ c0) (ht : 0 ≤ t) (ht1 : t < l0.length) (hx : rd_T53 l0 t = ⟨52, jt, jf, K⟩) (hL : fairleadref06_reckon.f k 52 s.a K = some v) (hn : K ≠ 0) :
  Calls Try.prog 35 #[.slice A0 l0.length c0, .agg #[.int .u32 d0, .int .u32 d1, .int .u64 d2, .int .u64 d3, .int .u64 d4, .int .u64 d5, .int .u64 d6, .int .u64 d7, .int .u64 d8], .agg (stA t n s)] w fun e w' => e = .returned (.agg (stA (wrap64 (t + 1)) (wrap64 (n + 1)) { s with a := v })) ∧ Below w.heap.size w w' := by
  have hu27_ := Try.underlying27
  have hu56_ := Try.underlying73
  have hu37_ := Try.underlying53
  have HR0 := Aside0.mk hr0
  have HC0 := Aside0.mk hc0
  clear hr0 hc0
  have hL' := Aside0.mk hL
  clear hL
  have hn0 := beq_eq_false_iff_ne.mpr hn
  have hn1 := bne_iff_ne.mpr hn
  clear hn
  go_enter Try.func35, Try.ntmps35
  go_upto_region 6 with (first | ((with_reducible refine gate_dst (N := 4) rfl ?_); refine box_event ?hg (N := 4) ?hd (cs := #[.int .u32 d0, .int .u32 d1, .int .u64 d2, .int .u64 d3, .int .u64 d4, .int .u64 d5, .int .u64 d6, .int .u64 d7, .int .u64 d8]) (t := 27) ?hr ?_; (case hd => rfl); (case hg => rfl); (case hr => first | (go_simp; done) | (go_simp; rfl)); intro gd hg w1 hbox hb; have GD := Aside0.mk hg; have B1 := Aside0.mk hbox; have W1 := Aside0.mk hb; clear hg hbox hb) | ((with_reducible refine gate_dst (N := 5) rfl ?_); refine box_event ?hg (N := 5) ?hd (cs := #[.int .i64 (t), .int .i64 (n), .int .u32 s.a, .int .u32 s.x, .int .u32 (s.C 0), .int .u32 (s.C 1), .int .u32 (s.C 2), .int .u32 (s.C 3), .int .u32 (s.C 4), .int .u32 (s.C 5), .int .u32 (s.C 6), .int .u32 (s.C 7), .int .u32 (s.C 8), .int .u32 (s.C 9), .int .u32 (s.C 10), .int .u32 (s.C 11), .int .u32 (s.C 12), .int .u32 (s.C 13), .int .u32 (s.C 14), .int .u32 (s.C 15), .bool s.o, .int .u32 s.r]) (t := 73) ?hr ?_; (case hd => rfl); (case hg => rfl); (case hr => first | (go_simp; done) | (go_simp; rfl)); intro gs hg w2 hbox hb; have GS := Aside0.mk hg; have B2 := Aside0.mk hbox; have W2 := Aside0.mk hb; clear hg hbox hb) | ((with_reducible refine gate_dst (N := 6) rfl ?_); refine box_event ?hg (N := 6) ?hd (cs := #[.int .i64 0, .int .i64 0, .int .u32 0, .int .u32 0, .int .u32 0, .int .u32 0, .int .u32 0, .int .u32 0, .int .u32 0, .int .u32 0, .int .u32 0, .int .u32 0, .int .u32 0, .int .u32 0, .int .u32 0, .int .u32 0, .int .u32 0, .int .u32 0, .int .u32 0, .int .u32 0, .bool false, .int .u32 0]) (t := 73) ?hr ?_; (case hd => rfl); (case hg => rfl); (case hr => first | (go_simp; done) | (go_simp; rfl)); intro gr hg w3 hbox hb; have GR := Aside0.mk hg; have B3 := Aside0.mk hbox; have W3 := Aside0.mk hb; clear hg hbox hb; have HS := Aside0.mk (blk_below B2.out W3.out); have hq0 := (blk_cell HS.out 0).trans rfl; obtain ⟨ad, rfl, hx0, hx1, hx2, hx3⟩ := at_T53 HR0.out t ht ht1; rw [hx] at hx0 hx1 hx2 hx3; simp only at hx0 hx1 hx2 hx3; have WW := Aside0.mk (below_step (below_step (below_step (Below.refl w.heap.size w) W1.out) W2.out) W3.out); replace hx0 := (WW.out.cell (World.block_lt_of_cell? w _ hx0)).trans hx0; replace hx1 := (WW.out.cell (World.block_lt_of_cell? w _ hx1)).trans hx1; replace hx2 := (WW.out.cell (World.block_lt_of_cell? w _ hx2)).trans hx2; replace hx3 := (WW.out.cell (World.block_lt_of_cell? w _ hx3)).trans hx3; have p0 := decide_eq_true ht; have p1 := decide_eq_true ht1) | ((with_reducible refine gate_dst (N := 7) rfl ?_); refine box_event ?hg (N := 7) ?hd (cs := #[.int .u16 0, .int .u8 0, .int .u8 0, .int .u32 0]) (t := 53) ?hr ?_; (case hd => rfl); (case hg => rfl); (case hr => first | (go_simp; done) | (go_simp; rfl)); intro gx hg w4 hbox hb; have GX := Aside0.mk hg; have B4 := Aside0.mk hbox; have W4 := Aside0.mk hb; clear hg hbox hb; have hne : gs ≠ gx := (by rw [GX.out]; exact Nat.ne_of_lt (blk_lt HS.out)); have HS := Aside0.mk (blk_below HS.out W4.out); have hq0 := (blk_cell HS.out 0).trans rfl; have hq1 := (blk_cell HS.out 1).trans rfl; have hf0 := blk_frozen HS.out 0; have hf1 := blk_frozen HS.out 1; have hf2 := blk_frozen B4.out 0; have hf3 := blk_frozen B4.out 1; have hf4 := blk_frozen B4.out 2; have hf5 := blk_frozen B4.out 3; have hg0 := (blk_cell B4.out 0).trans rfl; have hg1 := (blk_cell B4.out 1).trans rfl; have hg2 := (blk_cell B4.out 2).trans rfl; have hg3 := (blk_cell B4.out 3).trans rfl))
  (try simp only [Act.put, List.setIfInBounds_toArray, List.set_cons_zero, List.set_cons_succ])
  refine step_gen (R := fun wc => StB w wc gd gs gr gx #[.int .u32 d0, .int .u32 d1, .int .u64 d2, .int .u64 d3, .int .u64 d4, .int .u64 d5, .int .u64 d6, .int .u64 d7, .int .u64 d8] (stA (wrap64 (t + 1)) (wrap64 (n + 1)) s) _) (step_made B1.out B2.out B3.out B4.out W1.out W2.out W3.out W4.out GD.out GS.out GR.out GX.out _ jt jf K) (fun wc hB0 => ?_)
  have hB := Aside0.mk hB0
  clear hB0
  clear hx0 hx1 hx2 hx3 hq0 hq1 hf0 hf1 hf2 hf3 hf4 hf5 hg0 hg1 hg2 hg3 hne p0 p1 B1 B2 B3 B4 W1 W2 W3 W4 GD GS GR GX HS WW HR0 HC0
  have n1 := hB.out.sd
  have n2 := hB.out.sr
  have n3 := hB.out.sx
  have n4 := hB.out.sr.symm
  have n5 := hB.out.sx.symm
  have fs := fun j => blk_frozen hB.out.bs j
  have z0 : wc.cell? ⟨gs, 0, none⟩ = some (.int .i64 (wrap64 (t + 1))) := (blk_cell hB.out.bs 0).trans rfl
  have z2 : wc.cell? ⟨gs, 2, none⟩ = some (.int .u32 s.a) := (blk_cell hB.out.bs 2).trans rfl
  have z3 : wc.cell? ⟨gs, 3, none⟩ = some (.int .u32 s.x) := (blk_cell hB.out.bs 3).trans rfl
  have z20 : wc.cell? ⟨gs, 20, none⟩ = some (.bool s.o) := (blk_cell hB.out.bs 20).trans rfl
  have z21 : wc.cell? ⟨gs, 21, none⟩ = some (.int .u32 s.r) := (blk_cell hB.out.bs 21).trans rfl
  have x1 : wc.cell? ⟨gx, 1, none⟩ = some (.int .u8 jt) := (blk_cell hB.out.bx 1).trans rfl
  have x2 : wc.cell? ⟨gx, 2, none⟩ = some (.int .u8 jf) := (blk_cell hB.out.bx 2).trans rfl
  have x3 : wc.cell? ⟨gx, 3, none⟩ = some (.int .u32 K) := (blk_cell hB.out.bx 3).trans rfl
  go_wp2_with (first | ((go_at_call 45; (refine (fairleadref06_reckon.calls k 52 s.a K v _ hL'.out).mono ?_); rintro e w2 ⟨rfl, hd⟩; have hB2 := Aside0.mk (hB.out.call (hd.below)); clear hd z0 z2 z3 z20 z21 x1 x2 x3 fs hB; have z0 : w2.cell? ⟨gs, 0, none⟩ = some (.int .i64 (wrap64 (t + 1))) := (blk_cell hB2.out.bs 0).trans rfl; have z2 : w2.cell? ⟨gs, 2, none⟩ = some (.int .u32 s.a) := (blk_cell hB2.out.bs 2).trans rfl; have x1 : w2.cell? ⟨gx, 1, none⟩ = some (.int .u8 jt) := (blk_cell hB2.out.bx 1).trans rfl; have x2 : w2.cell? ⟨gx, 2, none⟩ = some (.int .u8 jf) := (blk_cell hB2.out.bx 2).trans rfl; have fs := fun j => blk_frozen hB2.out.bs j)) | ((with_reducible refine gate_dst (N := 176) rfl ?_); refine wpList_load_row rfl 73 (.tmp 5) rfl gs rfl 73 (stA (wrap64 (t + 1)) (wrap64 (n + 1)) { s with a := v }) (0, 0) _ (show StB _ _ _ _ _ _ _ (stA (wrap64 (t + 1)) (wrap64 (n + 1)) { s with a := v }) _ from (hB2.out).put 2 _ rfl).bs Try.underlying73 rfl (by kernel_rfl) ?_) | ((with_reducible refine gate_store (t := 73) (p := 6) rfl ?_); refine wpList_store_row rfl 73 (.tmp 6) (.tmp 176) rfl gr (stA (wrap64 (t + 1)) (wrap64 (n + 1)) { s with a := v }) rfl rfl 73 _ (show StB _ _ _ _ _ _ _ (stA (wrap64 (t + 1)) (wrap64 (n + 1)) { s with a := v }) _ from (hB2.out).put 2 _ rfl).br (by kernel_rfl) rfl (stA_one _ _ _) ?_))
  refine bodyPost_ret (results_cell_row rfl _ _ gr 73 (stA (wrap64 (t + 1)) (wrap64 (n + 1)) { s with a := v }) (0, 0) _ rfl (setRow_heap _ _ _ _ _ _ (show StB _ _ _ _ _ _ _ (stA (wrap64 (t + 1)) (wrap64 (n + 1)) { s with a := v }) _ from (hB2.out).put 2 _ rfl).br) Try.underlying73 rfl (by kernel_rfl)) rfl ?_
  exact ⟨rfl, step_setRow (show StB _ _ _ _ _ _ _ (stA (wrap64 (t + 1)) (wrap64 (n + 1)) { s with a := v }) _ from (hB2.out).put 2 _ rfl).below (by first | exact hB2.out.gr0 | exact hB.out.gr0) _⟩
set_option maxHeartbeats 8000000 in
set_option maxRecDepth 100000 in
theorem fairleadref06_Step.dx (k : Nat) (A0 : Option Addr) (c0 : Nat) (l0 : List S53) (d0 d1 d2 d3 d4 d5 d6 d7 d8 t n jt jf K : Int) (v : Int) (s : StS) (w : World) (hr0 : Kd.C k53 w A0 l0.length l0) (hc0 : l0.length ≤ c0) (ht : 0 ≤ t) (ht1 : t < l0.length) (hx : rd_T53 l0 t = ⟨60, jt, jf, K⟩) (hL : fairleadref06_reckon.f k 52 s.a s.x = some v) (hn : s.x ≠ 0) :
  Calls Try.prog 35 #[.slice A0 l0.length c0, .agg #[.int .u32 d0, .int .u32 d1, .int .u64 d2, .int .u64 d3, .int .u64 d4, .int .u64 d5, .int .u64 d6, .int .u64 d7, .int .u64 d8], .agg (stA t n s)] w fun e w' => e = .returned (.agg (stA (wrap64 (t + 1)) (wrap64 (n + 1)) { s with a := v })) ∧ Below w.heap.size w w' := by
  have hu27_ := Try.underlying27
  have hu56_ := Try.underlying73
  have hu37_ := Try.underlying53
  have HR0 := Aside0.mk hr0
  have HC0 := Aside0.mk hc0
  clear hr0 hc0
  have hL' := Aside0.mk hL
  clear hL
  have hn0 := beq_eq_false_iff_ne.mpr hn
  have hn1 := bne_iff_ne.mpr hn
  clear hn
  go_enter Try.func35, Try.ntmps35
  go_upto_region 6 with (first | ((with_reducible refine gate_dst (N := 4) rfl ?_); refine box_event ?hg (N := 4) ?hd (cs := #[.int .u32 d0, .int .u32 d1, .int .u64 d2, .int .u64 d3, .int .u64 d4, .int .u64 d5, .int .u64 d6, .int .u64 d7, .int .u64 d8]) (t := 27) ?hr ?_; (case hd => rfl); (case hg => rfl); (case hr => first | (go_simp; done) | (go_simp; rfl)); intro gd hg w1 hbox hb; have GD := Aside0.mk hg; have B1 := Aside0.mk hbox; have W1 := Aside0.mk hb; clear hg hbox hb) | ((with_reducible refine gate_dst (N := 5) rfl ?_); refine box_event ?hg (N := 5) ?hd (cs := #[.int .i64 (t), .int .i64 (n), .int .u32 s.a, .int .u32 s.x, .int .u32 (s.C 0), .int .u32 (s.C 1), .int .u32 (s.C 2), .int .u32 (s.C 3), .int .u32 (s.C 4), .int .u32 (s.C 5), .int .u32 (s.C 6), .int .u32 (s.C 7), .int .u32 (s.C 8), .int .u32 (s.C 9), .int .u32 (s.C 10), .int .u32 (s.C 11), .int .u32 (s.C 12), .int .u32 (s.C 13), .int .u32 (s.C 14), .int .u32 (s.C 15), .bool s.o, .int .u32 s.r]) (t := 73) ?hr ?_; (case hd => rfl); (case hg => rfl); (case hr => first | (go_simp; done) | (go_simp; rfl)); intro gs hg w2 hbox hb; have GS := Aside0.mk hg; have B2 := Aside0.mk hbox; have W2 := Aside0.mk hb; clear hg hbox hb) | ((with_reducible refine gate_dst (N := 6) rfl ?_); refine box_event ?hg (N := 6) ?hd (cs := #[.int .i64 0, .int .i64 0, .int .u32 0, .int .u32 0, .int .u32 0, .int .u32 0, .int .u32 0, .int .u32 0, .int .u32 0, .int .u32 0, .int .u32 0, .int .u32 0, .int .u32 0, .int .u32 0, .int .u32 0, .int .u32 0, .int .u32 0, .int .u32 0, .int .u32 0, .int .u32 0, .bool false, .int .u32 0]) (t := 73) ?hr ?_; (case hd => rfl); (case hg => rfl); (case hr => first | (go_simp; done) | (go_simp; rfl)); intro gr hg w3 hbox hb; have GR := Aside0.mk hg; have B3 := Aside0.mk hbox; have W3 := Aside0.mk hb; clear hg hbox hb; have HS := Aside0.mk (blk_below B2.out W3.out); have hq0 := (blk_cell HS.out 0).trans rfl; obtain ⟨ad, rfl, hx0, hx1, hx2, hx3⟩ := at_T53 HR0.out t ht ht1; rw [hx] at hx0 hx1 hx2 hx3; simp only at hx0 hx1 hx2 hx3; have WW := Aside0.mk (below_step (below_step (below_step (Below.refl w.heap.size w) W1.out) W2.out) W3.out); replace hx0 := (WW.out.cell (World.block_lt_of_cell? w _ hx0)).trans hx0; replace hx1 := (WW.out.cell (World.block_lt_of_cell? w _ hx1)).trans hx1; replace hx2 := (WW.out.cell (World.block_lt_of_cell? w _ hx2)).trans hx2; replace hx3 := (WW.out.cell (World.block_lt_of_cell? w _ hx3)).trans hx3; have p0 := decide_eq_true ht; have p1 := decide_eq_true ht1) | ((with_reducible refine gate_dst (N := 7) rfl ?_); refine box_event ?hg (N := 7) ?hd (cs := #[.int .u16 0, .int .u8 0, .int .u8 0, .int .u32 0]) (t := 53) ?hr ?_; (case hd => rfl); (case hg => rfl); (case hr => first | (go_simp; done) | (go_simp; rfl)); intro gx hg w4 hbox hb; have GX := Aside0.mk hg; have B4 := Aside0.mk hbox; have W4 := Aside0.mk hb; clear hg hbox hb; have hne : gs ≠ gx := (by rw [GX.out]; exact Nat.ne_of_lt (blk_lt HS.out)); have HS := Aside0.mk (blk_below HS.out W4.out); have hq0 := (blk_cell HS.out 0).trans rfl; have hq1 := (blk_cell HS.out 1).trans rfl; have hf0 := blk_frozen HS.out 0; have hf1 := blk_frozen HS.out 1; have hf2 := blk_frozen B4.out 0; have hf3 := blk_frozen B4.out 1; have hf4 := blk_frozen B4.out 2; have hf5 := blk_frozen B4.out 3; have hg0 := (blk_cell B4.out 0).trans rfl; have hg1 := (blk_cell B4.out 1).trans rfl; have hg2 := (blk_cell B4.out 2).trans rfl; have hg3 := (blk_cell B4.out 3).trans rfl))
  (try simp only [Act.put, List.setIfInBounds_toArray, List.set_cons_zero, List.set_cons_succ])
  refine step_gen (R := fun wc => StB w wc gd gs gr gx #[.int .u32 d0, .int .u32 d1, .int .u64 d2, .int .u64 d3, .int .u64 d4, .int .u64 d5, .int .u64 d6, .int .u64 d7, .int .u64 d8] (stA (wrap64 (t + 1)) (wrap64 (n + 1)) s) _) (step_made B1.out B2.out B3.out B4.out W1.out W2.out W3.out W4.out GD.out GS.out GR.out GX.out _ jt jf K) (fun wc hB0 => ?_)
  have hB := Aside0.mk hB0
  clear hB0
  clear hx0 hx1 hx2 hx3 hq0 hq1 hf0 hf1 hf2 hf3 hf4 hf5 hg0 hg1 hg2 hg3 hne p0 p1 B1 B2 B3 B4 W1 W2 W3 W4 GD GS GR GX HS WW HR0 HC0
  have n1 := hB.out.sd
  have n2 := hB.out.sr
  have n3 := hB.out.sx
  have n4 := hB.out.sr.symm
  have n5 := hB.out.sx.symm
  have fs := fun j => blk_frozen hB.out.bs j
  have z0 : wc.cell? ⟨gs, 0, none⟩ = some (.int .i64 (wrap64 (t + 1))) := (blk_cell hB.out.bs 0).trans rfl
  have z2 : wc.cell? ⟨gs, 2, none⟩ = some (.int .u32 s.a) := (blk_cell hB.out.bs 2).trans rfl
  have z3 : wc.cell? ⟨gs, 3, none⟩ = some (.int .u32 s.x) := (blk_cell hB.out.bs 3).trans rfl
  have z20 : wc.cell? ⟨gs, 20, none⟩ = some (.bool s.o) := (blk_cell hB.out.bs 20).trans rfl
  have z21 : wc.cell? ⟨gs, 21, none⟩ = some (.int .u32 s.r) := (blk_cell hB.out.bs 21).trans rfl
  have x1 : wc.cell? ⟨gx, 1, none⟩ = some (.int .u8 jt) := (blk_cell hB.out.bx 1).trans rfl
  have x2 : wc.cell? ⟨gx, 2, none⟩ = some (.int .u8 jf) := (blk_cell hB.out.bx 2).trans rfl
  have x3 : wc.cell? ⟨gx, 3, none⟩ = some (.int .u32 K) := (blk_cell hB.out.bx 3).trans rfl
  go_wp2_with (first | ((go_at_call 45; (refine (fairleadref06_reckon.calls k 52 s.a s.x v _ hL'.out).mono ?_); rintro e w2 ⟨rfl, hd⟩; have hB2 := Aside0.mk (hB.out.call (hd.below)); clear hd z0 z2 z3 z20 z21 x1 x2 x3 fs hB; have z0 : w2.cell? ⟨gs, 0, none⟩ = some (.int .i64 (wrap64 (t + 1))) := (blk_cell hB2.out.bs 0).trans rfl; have z2 : w2.cell? ⟨gs, 2, none⟩ = some (.int .u32 s.a) := (blk_cell hB2.out.bs 2).trans rfl; have x1 : w2.cell? ⟨gx, 1, none⟩ = some (.int .u8 jt) := (blk_cell hB2.out.bx 1).trans rfl; have x2 : w2.cell? ⟨gx, 2, none⟩ = some (.int .u8 jf) := (blk_cell hB2.out.bx 2).trans rfl; have fs := fun j => blk_frozen hB2.out.bs j)) | ((with_reducible refine gate_dst (N := 176) rfl ?_); refine wpList_load_row rfl 73 (.tmp 5) rfl gs rfl 73 (stA (wrap64 (t + 1)) (wrap64 (n + 1)) { s with a := v }) (0, 0) _ (show StB _ _ _ _ _ _ _ (stA (wrap64 (t + 1)) (wrap64 (n + 1)) { s with a := v }) _ from (hB2.out).put 2 _ rfl).bs Try.underlying73 rfl (by kernel_rfl) ?_) | ((with_reducible refine gate_store (t := 73) (p := 6) rfl ?_); refine wpList_store_row rfl 73 (.tmp 6) (.tmp 176) rfl gr (stA (wrap64 (t + 1)) (wrap64 (n + 1)) { s with a := v }) rfl rfl 73 _ (show StB _ _ _ _ _ _ _ (stA (wrap64 (t + 1)) (wrap64 (n + 1)) { s with a := v }) _ from (hB2.out).put 2 _ rfl).br (by kernel_rfl) rfl (stA_one _ _ _) ?_))
  refine bodyPost_ret (results_cell_row rfl _ _ gr 73 (stA (wrap64 (t + 1)) (wrap64 (n + 1)) { s with a := v }) (0, 0) _ rfl (setRow_heap _ _ _ _ _ _ (show StB _ _ _ _ _ _ _ (stA (wrap64 (t + 1)) (wrap64 (n + 1)) { s with a := v }) _ from (hB2.out).put 2 _ rfl).br) Try.underlying73 rfl (by kernel_rfl)) rfl ?_
  exact ⟨rfl, step_setRow (show StB _ _ _ _ _ _ _ (stA (wrap64 (t + 1)) (wrap64 (n + 1)) { s with a := v }) _ from (hB2.out).put 2 _ rfl).below (by first | exact hB2.out.gr0 | exact hB.out.gr0) _⟩
set_option maxHeartbeats 8000000 in
set_option maxRecDepth 100000 in
theorem fairleadref06_Step.dkz (k : Nat) (A0 : Option Addr) (c0 : Nat) (l0 : List S53) (d0 d1 d2 d3 d4 d5 d6 d7 d8 t n jt jf K : Int) (s : StS) (w : World) (hr0 : Kd.C k53 w A0 l0.length l0) (hc0 : l0.length ≤ c0) (ht : 0 ≤ t) (ht1 : t < l0.length) (hx : rd_T53 l0 t = ⟨52, jt, jf, K⟩) (hn : K = 0) :
  Calls Try.prog 35 #[.slice A0 l0.length c0, .agg #[.int .u32 d0, .int .u32 d1, .int .u64 d2, .int .u64 d3, .int .u64 d4, .int .u64 d5, .int .u64 d6, .int .u64 d7, .int .u64 d8], .agg (stA t n s)] w fun e w' => e = .returned (.agg (stA (wrap64 (t + 1)) (wrap64 (n + 1)) { s with o := true })) ∧ Below w.heap.size w w' := by
  have hu27_ := Try.underlying27
  have hu56_ := Try.underlying73
  have hu37_ := Try.underlying53
  have HR0 := Aside0.mk hr0
  have HC0 := Aside0.mk hc0
  clear hr0 hc0
  have hn0 := beq_iff_eq.mpr hn
  have hn1 := bne_eq_false_iff_eq.mpr hn
  clear hn
  go_enter Try.func35, Try.ntmps35
  go_upto_region 6 with (first | ((with_reducible refine gate_dst (N := 4) rfl ?_); refine box_event ?hg (N := 4) ?hd (cs := #[.int .u32 d0, .int .u32 d1, .int .u64 d2, .int .u64 d3, .int .u64 d4, .int .u64 d5, .int .u64 d6, .int .u64 d7, .int .u64 d8]) (t := 27) ?hr ?_; (case hd => rfl); (case hg => rfl); (case hr => first | (go_simp; done) | (go_simp; rfl)); intro gd hg w1 hbox hb; have GD := Aside0.mk hg; have B1 := Aside0.mk hbox; have W1 := Aside0.mk hb; clear hg hbox hb) | ((with_reducible refine gate_dst (N := 5) rfl ?_); refine box_event ?hg (N := 5) ?hd (cs := #[.int .i64 (t), .int .i64 (n), .int .u32 s.a, .int .u32 s.x, .int .u32 (s.C 0), .int .u32 (s.C 1), .int .u32 (s.C 2), .int .u32 (s.C 3), .int .u32 (s.C 4), .int .u32 (s.C 5), .int .u32 (s.C 6), .int .u32 (s.C 7), .int .u32 (s.C 8), .int .u32 (s.C 9), .int .u32 (s.C 10), .int .u32 (s.C 11), .int .u32 (s.C 12), .int .u32 (s.C 13), .int .u32 (s.C 14), .int .u32 (s.C 15), .bool s.o, .int .u32 s.r]) (t := 73) ?hr ?_; (case hd => rfl); (case hg => rfl); (case hr => first | (go_simp; done) | (go_simp; rfl)); intro gs hg w2 hbox hb; have GS := Aside0.mk hg; have B2 := Aside0.mk hbox; have W2 := Aside0.mk hb; clear hg hbox hb) | ((with_reducible refine gate_dst (N := 6) rfl ?_); refine box_event ?hg (N := 6) ?hd (cs := #[.int .i64 0, .int .i64 0, .int .u32 0, .int .u32 0, .int .u32 0, .int .u32 0, .int .u32 0, .int .u32 0, .int .u32 0, .int .u32 0, .int .u32 0, .int .u32 0, .int .u32 0, .int .u32 0, .int .u32 0, .int .u32 0, .int .u32 0, .int .u32 0, .int .u32 0, .int .u32 0, .bool false, .int .u32 0]) (t := 73) ?hr ?_; (case hd => rfl); (case hg => rfl); (case hr => first | (go_simp; done) | (go_simp; rfl)); intro gr hg w3 hbox hb; have GR := Aside0.mk hg; have B3 := Aside0.mk hbox; have W3 := Aside0.mk hb; clear hg hbox hb; have HS := Aside0.mk (blk_below B2.out W3.out); have hq0 := (blk_cell HS.out 0).trans rfl; obtain ⟨ad, rfl, hx0, hx1, hx2, hx3⟩ := at_T53 HR0.out t ht ht1; rw [hx] at hx0 hx1 hx2 hx3; simp only at hx0 hx1 hx2 hx3; have WW := Aside0.mk (below_step (below_step (below_step (Below.refl w.heap.size w) W1.out) W2.out) W3.out); replace hx0 := (WW.out.cell (World.block_lt_of_cell? w _ hx0)).trans hx0; replace hx1 := (WW.out.cell (World.block_lt_of_cell? w _ hx1)).trans hx1; replace hx2 := (WW.out.cell (World.block_lt_of_cell? w _ hx2)).trans hx2; replace hx3 := (WW.out.cell (World.block_lt_of_cell? w _ hx3)).trans hx3; have p0 := decide_eq_true ht; have p1 := decide_eq_true ht1) | ((with_reducible refine gate_dst (N := 7) rfl ?_); refine box_event ?hg (N := 7) ?hd (cs := #[.int .u16 0, .int .u8 0, .int .u8 0, .int .u32 0]) (t := 53) ?hr ?_; (case hd => rfl); (case hg => rfl); (case hr => first | (go_simp; done) | (go_simp; rfl)); intro gx hg w4 hbox hb; have GX := Aside0.mk hg; have B4 := Aside0.mk hbox; have W4 := Aside0.mk hb; clear hg hbox hb; have hne : gs ≠ gx := (by rw [GX.out]; exact Nat.ne_of_lt (blk_lt HS.out)); have HS := Aside0.mk (blk_below HS.out W4.out); have hq0 := (blk_cell HS.out 0).trans rfl; have hq1 := (blk_cell HS.out 1).trans rfl; have hf0 := blk_frozen HS.out 0; have hf1 := blk_frozen HS.out 1; have hf2 := blk_frozen B4.out 0; have hf3 := blk_frozen B4.out 1; have hf4 := blk_frozen B4.out 2; have hf5 := blk_frozen B4.out 3; have hg0 := (blk_cell B4.out 0).trans rfl; have hg1 := (blk_cell B4.out 1).trans rfl; have hg2 := (blk_cell B4.out 2).trans rfl; have hg3 := (blk_cell B4.out 3).trans rfl))
  (try simp only [Act.put, List.setIfInBounds_toArray, List.set_cons_zero, List.set_cons_succ])
  refine step_gen (R := fun wc => StB w wc gd gs gr gx #[.int .u32 d0, .int .u32 d1, .int .u64 d2, .int .u64 d3, .int .u64 d4, .int .u64 d5, .int .u64 d6, .int .u64 d7, .int .u64 d8] (stA (wrap64 (t + 1)) (wrap64 (n + 1)) s) _) (step_made B1.out B2.out B3.out B4.out W1.out W2.out W3.out W4.out GD.out GS.out GR.out GX.out _ jt jf K) (fun wc hB0 => ?_)
  have hB := Aside0.mk hB0
  clear hB0
  clear hx0 hx1 hx2 hx3 hq0 hq1 hf0 hf1 hf2 hf3 hf4 hf5 hg0 hg1 hg2 hg3 hne p0 p1 B1 B2 B3 B4 W1 W2 W3 W4 GD GS GR GX HS WW HR0 HC0
  have n1 := hB.out.sd
  have n2 := hB.out.sr
  have n3 := hB.out.sx
  have n4 := hB.out.sr.symm
  have n5 := hB.out.sx.symm
  have fs := fun j => blk_frozen hB.out.bs j
  have z0 : wc.cell? ⟨gs, 0, none⟩ = some (.int .i64 (wrap64 (t + 1))) := (blk_cell hB.out.bs 0).trans rfl
  have z2 : wc.cell? ⟨gs, 2, none⟩ = some (.int .u32 s.a) := (blk_cell hB.out.bs 2).trans rfl
  have z3 : wc.cell? ⟨gs, 3, none⟩ = some (.int .u32 s.x) := (blk_cell hB.out.bs 3).trans rfl
  have z20 : wc.cell? ⟨gs, 20, none⟩ = some (.bool s.o) := (blk_cell hB.out.bs 20).trans rfl
  have z21 : wc.cell? ⟨gs, 21, none⟩ = some (.int .u32 s.r) := (blk_cell hB.out.bs 21).trans rfl
  have x1 : wc.cell? ⟨gx, 1, none⟩ = some (.int .u8 jt) := (blk_cell hB.out.bx 1).trans rfl
  have x2 : wc.cell? ⟨gx, 2, none⟩ = some (.int .u8 jf) := (blk_cell hB.out.bx 2).trans rfl
  have x3 : wc.cell? ⟨gx, 3, none⟩ = some (.int .u32 K) := (blk_cell hB.out.bx 3).trans rfl
  go_wp2_with (first | ((with_reducible refine gate_dst (N := 54) rfl ?_); refine wpList_load_row rfl 73 (.tmp 5) rfl gs rfl 73 (stA (wrap64 (t + 1)) (wrap64 (n + 1)) { s with o := true }) (0, 0) _ (show StB _ _ _ _ _ _ _ (stA (wrap64 (t + 1)) (wrap64 (n + 1)) { s with o := true }) _ from (hB.out).put 20 _ rfl).bs Try.underlying73 rfl (by kernel_rfl) ?_) | ((with_reducible refine gate_store (t := 73) (p := 6) rfl ?_); refine wpList_store_row rfl 73 (.tmp 6) (.tmp 54) rfl gr (stA (wrap64 (t + 1)) (wrap64 (n + 1)) { s with o := true }) rfl rfl 73 _ (show StB _ _ _ _ _ _ _ (stA (wrap64 (t + 1)) (wrap64 (n + 1)) { s with o := true }) _ from (hB.out).put 20 _ rfl).br (by kernel_rfl) rfl (stA_one _ _ _) ?_))
  refine bodyPost_ret (results_cell_row rfl _ _ gr 73 (stA (wrap64 (t + 1)) (wrap64 (n + 1)) { s with o := true }) (0, 0) _ rfl (setRow_heap _ _ _ _ _ _ (show StB _ _ _ _ _ _ _ (stA (wrap64 (t + 1)) (wrap64 (n + 1)) { s with o := true }) _ from (hB.out).put 20 _ rfl).br) Try.underlying73 rfl (by kernel_rfl)) rfl ?_
  exact ⟨rfl, step_setRow (show StB _ _ _ _ _ _ _ (stA (wrap64 (t + 1)) (wrap64 (n + 1)) { s with o := true }) _ from (hB.out).put 20 _ rfl).below (by first | exact hB2.out.gr0 | exact hB.out.gr0) _⟩
set_option maxHeartbeats 8000000 in
set_option maxRecDepth 100000 in
theorem fairleadref06_Step.dxz (k : Nat) (A0 : Option Addr) (c0 : Nat) (l0 : List S53) (d0 d1 d2 d3 d4 d5 d6 d7 d8 t n jt jf K : Int) (s : StS) (w : World) (hr0 : Kd.C k53 w A0 l0.length l0) (hc0 : l0.length ≤ c0) (ht : 0 ≤ t) (ht1 : t < l0.length) (hx : rd_T53 l0 t = ⟨60, jt, jf, K⟩) (hn : s.x = 0) :
  Calls Try.prog 35 #[.slice A0 l0.length c0, .agg #[.int .u32 d0, .int .u32 d1, .int .u64 d2, .int .u64 d3, .int .u64 d4, .int .u64 d5, .int .u64 d6, .int .u64 d7, .int .u64 d8], .agg (stA t n s)] w fun e w' => e = .returned (.agg (stA (wrap64 (t + 1)) (wrap64 (n + 1)) { s with o := true })) ∧ Below w.heap.size w w' := by
  have hu27_ := Try.underlying27
  have hu56_ := Try.underlying73
  have hu37_ := Try.underlying53
  have HR0 := Aside0.mk hr0
  have HC0 := Aside0.mk hc0
  clear hr0 hc0
  have hn0 := beq_iff_eq.mpr hn
  have hn1 := bne_eq_false_iff_eq.mpr hn
  clear hn
  go_enter Try.func35, Try.ntmps35
  go_upto_region 6 with (first | ((with_reducible refine gate_dst (N := 4) rfl ?_); refine box_event ?hg (N := 4) ?hd (cs := #[.int .u32 d0, .int .u32 d1, .int .u64 d2, .int .u64 d3, .int .u64 d4, .int .u64 d5, .int .u64 d6, .int .u64 d7, .int .u64 d8]) (t := 27) ?hr ?_; (case hd => rfl); (case hg => rfl); (case hr => first | (go_simp; done) | (go_simp; rfl)); intro gd hg w1 hbox hb; have GD := Aside0.mk hg; have B1 := Aside0.mk hbox; have W1 := Aside0.mk hb; clear hg hbox hb) | ((with_reducible refine gate_dst (N := 5) rfl ?_); refine box_event ?hg (N := 5) ?hd (cs := #[.int .i64 (t), .int .i64 (n), .int .u32 s.a, .int .u32 s.x, .int .u32 (s.C 0), .int .u32 (s.C 1), .int .u32 (s.C 2), .int .u32 (s.C 3), .int .u32 (s.C 4), .int .u32 (s.C 5), .int .u32 (s.C 6), .int .u32 (s.C 7), .int .u32 (s.C 8), .int .u32 (s.C 9), .int .u32 (s.C 10), .int .u32 (s.C 11), .int .u32 (s.C 12), .int .u32 (s.C 13), .int .u32 (s.C 14), .int .u32 (s.C 15), .bool s.o, .int .u32 s.r]) (t := 73) ?hr ?_; (case hd => rfl); (case hg => rfl); (case hr => first | (go_simp; done) | (go_simp; rfl)); intro gs hg w2 hbox hb; have GS := Aside0.mk hg; have B2 := Aside0.mk hbox; have W2 := Aside0.mk hb; clear hg hbox hb) | ((with_reducible refine gate_dst (N := 6) rfl ?_); refine box_event ?hg (N := 6) ?hd (cs := #[.int .i64 0, .int .i64 0, .int .u32 0, .int .u32 0, .int .u32 0, .int .u32 0, .int .u32 0, .int .u32 0, .int .u32 0, .int .u32 0, .int .u32 0, .int .u32 0, .int .u32 0, .int .u32 0, .int .u32 0, .int .u32 0, .int .u32 0, .int .u32 0, .int .u32 0, .int .u32 0, .bool false, .int .u32 0]) (t := 73) ?hr ?_; (case hd => rfl); (case hg => rfl); (case hr => first | (go_simp; done) | (go_simp; rfl)); intro gr hg w3 hbox hb; have GR := Aside0.mk hg; have B3 := Aside0.mk hbox; have W3 := Aside0.mk hb; clear hg hbox hb; have HS := Aside0.mk (blk_below B2.out W3.out); have hq0 := (blk_cell HS.out 0).trans rfl; obtain ⟨ad, rfl, hx0, hx1, hx2, hx3⟩ := at_T53 HR0.out t ht ht1; rw [hx] at hx0 hx1 hx2 hx3; simp only at hx0 hx1 hx2 hx3; have WW := Aside0.mk (below_step (below_step (below_step (Below.refl w.heap.size w) W1.out) W2.out) W3.out); replace hx0 := (WW.out.cell (World.block_lt_of_cell? w _ hx0)).trans hx0; replace hx1 := (WW.out.cell (World.block_lt_of_cell? w _ hx1)).trans hx1; replace hx2 := (WW.out.cell (World.block_lt_of_cell? w _ hx2)).trans hx2; replace hx3 := (WW.out.cell (World.block_lt_of_cell? w _ hx3)).trans hx3; have p0 := decide_eq_true ht; have p1 := decide_eq_true ht1) | ((with_reducible refine gate_dst (N := 7) rfl ?_); refine box_event ?hg (N := 7) ?hd (cs := #[.int .u16 0, .int .u8 0, .int .u8 0, .int .u32 0]) (t := 53) ?hr ?_; (case hd => rfl); (case hg => rfl); (case hr => first | (go_simp; done) | (go_simp; rfl)); intro gx hg w4 hbox hb; have GX := Aside0.mk hg; have B4 := Aside0.mk hbox; have W4 := Aside0.mk hb; clear hg hbox hb; have hne : gs ≠ gx := (by rw [GX.out]; exact Nat.ne_of_lt (blk_lt HS.out)); have HS := Aside0.mk (blk_below HS.out W4.out); have hq0 := (blk_cell HS.out 0).trans rfl; have hq1 := (blk_cell HS.out 1).trans rfl; have hf0 := blk_frozen HS.out 0; have hf1 := blk_frozen HS.out 1; have hf2 := blk_frozen B4.out 0; have hf3 := blk_frozen B4.out 1; have hf4 := blk_frozen B4.out 2; have hf5 := blk_frozen B4.out 3; have hg0 := (blk_cell B4.out 0).trans rfl; have hg1 := (blk_cell B4.out 1).trans rfl; have hg2 := (blk_cell B4.out 2).trans rfl; have hg3 := (blk_cell B4.out 3).trans rfl))
  (try simp only [Act.put, List.setIfInBounds_toArray, List.set_cons_zero, List.set_cons_succ])
  refine step_gen (R := fun wc => StB w wc gd gs gr gx #[.int .u32 d0, .int .u32 d1, .int .u64 d2, .int .u64 d3, .int .u64 d4, .int .u64 d5, .int .u64 d6, .int .u64 d7, .int .u64 d8] (stA (wrap64 (t + 1)) (wrap64 (n + 1)) s) _) (step_made B1.out B2.out B3.out B4.out W1.out W2.out W3.out W4.out GD.out GS.out GR.out GX.out _ jt jf K) (fun wc hB0 => ?_)
  have hB := Aside0.mk hB0
  clear hB0
  clear hx0 hx1 hx2 hx3 hq0 hq1 hf0 hf1 hf2 hf3 hf4 hf5 hg0 hg1 hg2 hg3 hne p0 p1 B1 B2 B3 B4 W1 W2 W3 W4 GD GS GR GX HS WW HR0 HC0
  have n1 := hB.out.sd
  have n2 := hB.out.sr
  have n3 := hB.out.sx
  have n4 := hB.out.sr.symm
  have n5 := hB.out.sx.symm
  have fs := fun j => blk_frozen hB.out.bs j
  have z0 : wc.cell? ⟨gs, 0, none⟩ = some (.int .i64 (wrap64 (t + 1))) := (blk_cell hB.out.bs 0).trans rfl
  have z2 : wc.cell? ⟨gs, 2, none⟩ = some (.int .u32 s.a) := (blk_cell hB.out.bs 2).trans rfl
  have z3 : wc.cell? ⟨gs, 3, none⟩ = some (.int .u32 s.x) := (blk_cell hB.out.bs 3).trans rfl
  have z20 : wc.cell? ⟨gs, 20, none⟩ = some (.bool s.o) := (blk_cell hB.out.bs 20).trans rfl
  have z21 : wc.cell? ⟨gs, 21, none⟩ = some (.int .u32 s.r) := (blk_cell hB.out.bs 21).trans rfl
  have x1 : wc.cell? ⟨gx, 1, none⟩ = some (.int .u8 jt) := (blk_cell hB.out.bx 1).trans rfl
  have x2 : wc.cell? ⟨gx, 2, none⟩ = some (.int .u8 jf) := (blk_cell hB.out.bx 2).trans rfl
  have x3 : wc.cell? ⟨gx, 3, none⟩ = some (.int .u32 K) := (blk_cell hB.out.bx 3).trans rfl
  go_wp2_with (first | ((with_reducible refine gate_dst (N := 54) rfl ?_); refine wpList_load_row rfl 73 (.tmp 5) rfl gs rfl 73 (stA (wrap64 (t + 1)) (wrap64 (n + 1)) { s with o := true }) (0, 0) _ (show StB _ _ _ _ _ _ _ (stA (wrap64 (t + 1)) (wrap64 (n + 1)) { s with o := true }) _ from (hB.out).put 20 _ rfl).bs Try.underlying73 rfl (by kernel_rfl) ?_) | ((with_reducible refine gate_store (t := 73) (p := 6) rfl ?_); refine wpList_store_row rfl 73 (.tmp 6) (.tmp 54) rfl gr (stA (wrap64 (t + 1)) (wrap64 (n + 1)) { s with o := true }) rfl rfl 73 _ (show StB _ _ _ _ _ _ _ (stA (wrap64 (t + 1)) (wrap64 (n + 1)) { s with o := true }) _ from (hB.out).put 20 _ rfl).br (by kernel_rfl) rfl (stA_one _ _ _) ?_))
  refine bodyPost_ret (results_cell_row rfl _ _ gr 73 (stA (wrap64 (t + 1)) (wrap64 (n + 1)) { s with o := true }) (0, 0) _ rfl (setRow_heap _ _ _ _ _ _ (show StB _ _ _ _ _ _ _ (stA (wrap64 (t + 1)) (wrap64 (n + 1)) { s with o := true }) _ from (hB.out).put 20 _ rfl).br) Try.underlying73 rfl (by kernel_rfl)) rfl ?_
  exact ⟨rfl, step_setRow (show StB _ _ _ _ _ _ _ (stA (wrap64 (t + 1)) (wrap64 (n + 1)) { s with o := true }) _ from (hB.out).put 20 _ rfl).below (by first | exact hB2.out.gr0 | exact hB.out.gr0) _⟩
def fairleadref06_Step.g (k : Nat) (c jt jf K : Int) (d0 d1 d2 d3 d4 d5 d6 d7 d8 T : Int) (s : StS) : Option (Int × StS) :=
  if c = 32 then (fairleadref04_Load.f k d0 d1 d2 d3 d4 d5 d6 d7 d8 K).bind fun p => some (T, { s with a := p.1 })
  else if c = 0 then some (T, { s with a := K }) else if c = 1 then some (T, { s with x := K })
  else if c = 96 then (if 0 ≤ K ∧ K < 16 then some (T, { s with a := s.C K }) else none) else if c = 97 then (if 0 ≤ K ∧ K < 16 then some (T, { s with x := s.C K }) else none)
  else if c = 2 then (if 0 ≤ K ∧ K < 16 then some (T, { s with C := fun j => if j = K then s.a else s.C j }) else none) else if c = 3 then (if 0 ≤ K ∧ K < 16 then some (T, { s with C := fun j => if j = K then s.x else s.C j }) else none)
  else if c = 7 then some (T, { s with x := s.a }) else if c = 135 then some (T, { s with a := s.x }) else if c = 132 then some (T, { s with a := (-s.a) % 4294967296 })
  else if c = 5 then some (wrap64 (T + wrap64 K), s) else if c = 6 then some (T, { s with o := true, r := K }) else if c = 22 then some (T, { s with o := true, r := s.a })
  else if c = 21 ∨ c = 37 ∨ c = 53 ∨ c = 69 then (fairleadref06_holds.f c s.a K).bind fun b => some (wrap64 (T + (if b = true then wrap64 jt else wrap64 jf)), s)
  else if c = 29 ∨ c = 45 ∨ c = 61 ∨ c = 77 then (fairleadref06_holds.f (c - 8) s.a s.x).bind fun b => some (wrap64 (T + (if b = true then wrap64 jt else wrap64 jf)), s)
  else if c = 52 then (if K = 0 then some (T, { s with o := true }) else (fairleadref06_reckon.f k 52 s.a K).bind fun v => some (T, { s with a := v }))
  else if c = 60 then (if s.x = 0 then some (T, { s with o := true }) else (fairleadref06_reckon.f k 52 s.a s.x).bind fun v => some (T, { s with a := v }))
  else if c = 4 ∨ c = 20 ∨ c = 36 ∨ c = 68 ∨ c = 84 ∨ c = 100 ∨ c = 116 ∨ c = 164 then (fairleadref06_reckon.f k c s.a K).bind fun v => some (T, { s with a := v })
  else if c = 12 ∨ c = 28 ∨ c = 44 ∨ c = 76 ∨ c = 92 ∨ c = 108 ∨ c = 124 ∨ c = 172 then (fairleadref06_reckon.f k (c - 8) s.a s.x).bind fun v => some (T, { s with a := v })
  else none
set_option maxHeartbeats 8000000 in
set_option maxRecDepth 100000 in
theorem fairleadref06_Step.gcalls (k : Nat) (A0 : Option Addr) (c0 : Nat) (l0 : List S53) (d0 d1 d2 d3 d4 d5 d6 d7 d8 t n c jt jf K : Int) (s : StS) (T' : Int) (s' : StS) (w : World) (hr0 : Kd.C k53 w A0 l0.length l0) (hc0 : l0.length ≤ c0) (ht : 0 ≤ t) (ht1 : t < l0.length) (hx : rd_T53 l0 t = ⟨c, jt, jf, K⟩) (H : fairleadref06_Step.g k c jt jf K d0 d1 d2 d3 d4 d5 d6 d7 d8 (wrap64 (t + 1)) s = some (T', s')) :
  Calls Try.prog 35 #[.slice A0 l0.length c0, .agg #[.int .u32 d0, .int .u32 d1, .int .u64 d2, .int .u64 d3, .int .u64 d4, .int .u64 d5, .int .u64 d6, .int .u64 d7, .int .u64 d8], .agg (stA t n s)] w fun e w' => e = .returned (.agg (stA T' (wrap64 (n + 1)) s')) ∧ Below w.heap.size w w' := by
  unfold fairleadref06_Step.g at H
  by_cases e : c = 32
  · rw [if_pos e] at H
    subst e
    obtain ⟨⟨v, q⟩, hL, H⟩ := Option.bind_eq_some_iff.mp H
    simp only [Option.some.injEq, Prod.mk.injEq] at H
    obtain ⟨rfl, rfl⟩ := H
    exact fairleadref06_Step.c32 k A0 c0 l0 d0 d1 d2 d3 d4 d5 d6 d7 d8 t n jt jf K v q s w hr0 hc0 ht ht1 hx hL
  rw [if_neg e] at H
  clear e
  by_cases e : c = 0
  · rw [if_pos e] at H
    subst e
    simp only [Option.some.injEq, Prod.mk.injEq] at H
    obtain ⟨rfl, rfl⟩ := H
    exact fairleadref06_Step.c0 k A0 c0 l0 d0 d1 d2 d3 d4 d5 d6 d7 d8 t n jt jf K s w hr0 hc0 ht ht1 hx
  rw [if_neg e] at H
  clear e
  by_cases e : c = 1
  · rw [if_pos e] at H
    subst e
    simp only [Option.some.injEq, Prod.mk.injEq] at H
    obtain ⟨rfl, rfl⟩ := H
    exact fairleadref06_Step.c1 k A0 c0 l0 d0 d1 d2 d3 d4 d5 d6 d7 d8 t n jt jf K s w hr0 hc0 ht ht1 hx
  rw [if_neg e] at H
  clear e
  by_cases e : c = 96
  · rw [if_pos e] at H
    subst e
    by_cases hK : 0 ≤ K ∧ K < 16
    · rw [if_pos hK] at H
      simp only [Option.some.injEq, Prod.mk.injEq] at H
      obtain ⟨rfl, rfl⟩ := H
      exact fairleadref06_Step.c96 k A0 c0 l0 d0 d1 d2 d3 d4 d5 d6 d7 d8 t n jt jf K s w hr0 hc0 ht ht1 hx hK.1 hK.2
    · rw [if_neg hK] at H; cases H
  rw [if_neg e] at H
  clear e
  by_cases e : c = 97
  · rw [if_pos e] at H
    subst e
    by_cases hK : 0 ≤ K ∧ K < 16
    · rw [if_pos hK] at H
      simp only [Option.some.injEq, Prod.mk.injEq] at H
      obtain ⟨rfl, rfl⟩ := H
      exact fairleadref06_Step.c97 k A0 c0 l0 d0 d1 d2 d3 d4 d5 d6 d7 d8 t n jt jf K s w hr0 hc0 ht ht1 hx hK.1 hK.2
    · rw [if_neg hK] at H; cases H
  rw [if_neg e] at H
  clear e
  by_cases e : c = 2
  · rw [if_pos e] at H
    subst e
    by_cases hK : 0 ≤ K ∧ K < 16
    · rw [if_pos hK] at H
      simp only [Option.some.injEq, Prod.mk.injEq] at H
      obtain ⟨rfl, rfl⟩ := H
      exact fairleadref06_Step.c2 k A0 c0 l0 d0 d1 d2 d3 d4 d5 d6 d7 d8 t n jt jf K s w hr0 hc0 ht ht1 hx hK.1 hK.2
    · rw [if_neg hK] at H; cases H
  rw [if_neg e] at H
  clear e
  by_cases e : c = 3
  · rw [if_pos e] at H
    subst e
    by_cases hK : 0 ≤ K ∧ K < 16
    · rw [if_pos hK] at H
      simp only [Option.some.injEq, Prod.mk.injEq] at H
      obtain ⟨rfl, rfl⟩ := H
      exact fairleadref06_Step.c3 k A0 c0 l0 d0 d1 d2 d3 d4 d5 d6 d7 d8 t n jt jf K s w hr0 hc0 ht ht1 hx hK.1 hK.2
    · rw [if_neg hK] at H; cases H
  rw [if_neg e] at H
  clear e
  by_cases e : c = 7
  · rw [if_pos e] at H
    subst e
    simp only [Option.some.injEq, Prod.mk.injEq] at H
    obtain ⟨rfl, rfl⟩ := H
    exact fairleadref06_Step.c7 k A0 c0 l0 d0 d1 d2 d3 d4 d5 d6 d7 d8 t n jt jf K s w hr0 hc0 ht ht1 hx
  rw [if_neg e] at H
  clear e
  by_cases e : c = 135
  · rw [if_pos e] at H
    subst e
    simp only [Option.some.injEq, Prod.mk.injEq] at H
    obtain ⟨rfl, rfl⟩ := H
    exact fairleadref06_Step.c135 k A0 c0 l0 d0 d1 d2 d3 d4 d5 d6 d7 d8 t n jt jf K s w hr0 hc0 ht ht1 hx
  rw [if_neg e] at H
  clear e
  by_cases e : c = 132
  · rw [if_pos e] at H
    subst e
    simp only [Option.some.injEq, Prod.mk.injEq] at H
    obtain ⟨rfl, rfl⟩ := H
    exact fairleadref06_Step.c132 k A0 c0 l0 d0 d1 d2 d3 d4 d5 d6 d7 d8 t n jt jf K s w hr0 hc0 ht ht1 hx
  rw [if_neg e] at H
  clear e
  by_cases e : c = 5
  · rw [if_pos e] at H
    subst e
    simp only [Option.some.injEq, Prod.mk.injEq] at H
    obtain ⟨rfl, rfl⟩ := H
    exact fairleadref06_Step.c5 k A0 c0 l0 d0 d1 d2 d3 d4 d5 d6 d7 d8 t n jt jf K s w hr0 hc0 ht ht1 hx
  rw [if_neg e] at H
  clear e
  by_cases e : c = 6
  · rw [if_pos e] at H
    subst e
    simp only [Option.some.injEq, Prod.mk.injEq] at H
    obtain ⟨rfl, rfl⟩ := H
    exact fairleadref06_Step.c6 k A0 c0 l0 d0 d1 d2 d3 d4 d5 d6 d7 d8 t n jt jf K s w hr0 hc0 ht ht1 hx
  rw [if_neg e] at H
  clear e
  by_cases e : c = 22
  · rw [if_pos e] at H
    subst e
    simp only [Option.some.injEq, Prod.mk.injEq] at H
    obtain ⟨rfl, rfl⟩ := H
    exact fairleadref06_Step.c22 k A0 c0 l0 d0 d1 d2 d3 d4 d5 d6 d7 d8 t n jt jf K s w hr0 hc0 ht ht1 hx
  rw [if_neg e] at H
  clear e
  by_cases e : c = 21 ∨ c = 37 ∨ c = 53 ∨ c = 69
  · rw [if_pos e] at H
    obtain ⟨b, hL, H⟩ := Option.bind_eq_some_iff.mp H
    simp only [Option.some.injEq, Prod.mk.injEq] at H
    obtain ⟨rfl, rfl⟩ := H
    refine fairleadref06_Step.jk k A0 c0 l0 d0 d1 d2 d3 d4 d5 d6 d7 d8 t n jt jf K c (if b = true then wrap64 jt else wrap64 jf) b s w hr0 hc0 ht ht1 hx ?_ hL
    clear hL
    rcases e with rfl | rfl | rfl | rfl <;> cases b <;> simp
  rw [if_neg e] at H
  clear e
  by_cases e : c = 29 ∨ c = 45 ∨ c = 61 ∨ c = 77
  · rw [if_pos e] at H
    obtain ⟨b, hL, H⟩ := Option.bind_eq_some_iff.mp H
    simp only [Option.some.injEq, Prod.mk.injEq] at H
    obtain ⟨rfl, rfl⟩ := H
    refine fairleadref06_Step.jx k A0 c0 l0 d0 d1 d2 d3 d4 d5 d6 d7 d8 t n jt jf K c (c - 8) (if b = true then wrap64 jt else wrap64 jf) b s w hr0 hc0 ht ht1 hx ?_ hL
    clear hL
    rcases e with rfl | rfl | rfl | rfl <;> cases b <;> simp
  rw [if_neg e] at H
  clear e
  by_cases e : c = 52
  · rw [if_pos e] at H
    subst e
    by_cases hn : K = 0
    · rw [if_pos hn] at H
      simp only [Option.some.injEq, Prod.mk.injEq] at H
      obtain ⟨rfl, rfl⟩ := H
      exact fairleadref06_Step.dkz k A0 c0 l0 d0 d1 d2 d3 d4 d5 d6 d7 d8 t n jt jf K s w hr0 hc0 ht ht1 hx hn
    · rw [if_neg hn] at H
      obtain ⟨v, hL, H⟩ := Option.bind_eq_some_iff.mp H
      simp only [Option.some.injEq, Prod.mk.injEq] at H
      obtain ⟨rfl, rfl⟩ := H
      exact fairleadref06_Step.dk k A0 c0 l0 d0 d1 d2 d3 d4 d5 d6 d7 d8 t n jt jf K v s w hr0 hc0 ht ht1 hx hL hn
  rw [if_neg e] at H
  clear e
  by_cases e : c = 60
  · rw [if_pos e] at H
    subst e
    by_cases hn : s.x = 0
    · rw [if_pos hn] at H
      simp only [Option.some.injEq, Prod.mk.injEq] at H
      obtain ⟨rfl, rfl⟩ := H
      exact fairleadref06_Step.dxz k A0 c0 l0 d0 d1 d2 d3 d4 d5 d6 d7 d8 t n jt jf K s w hr0 hc0 ht ht1 hx hn
    · rw [if_neg hn] at H
      obtain ⟨v, hL, H⟩ := Option.bind_eq_some_iff.mp H
      simp only [Option.some.injEq, Prod.mk.injEq] at H
      obtain ⟨rfl, rfl⟩ := H
      exact fairleadref06_Step.dx k A0 c0 l0 d0 d1 d2 d3 d4 d5 d6 d7 d8 t n jt jf K v s w hr0 hc0 ht ht1 hx hL hn
  rw [if_neg e] at H
  clear e
  by_cases e : c = 4 ∨ c = 20 ∨ c = 36 ∨ c = 68 ∨ c = 84 ∨ c = 100 ∨ c = 116 ∨ c = 164
  · rw [if_pos e] at H
    obtain ⟨v, hL, H⟩ := Option.bind_eq_some_iff.mp H
    simp only [Option.some.injEq, Prod.mk.injEq] at H
    obtain ⟨rfl, rfl⟩ := H
    exact fairleadref06_Step.rk k A0 c0 l0 d0 d1 d2 d3 d4 d5 d6 d7 d8 t n jt jf K c v s w hr0 hc0 ht ht1 hx e hL
  rw [if_neg e] at H
  clear e
  by_cases e : c = 12 ∨ c = 28 ∨ c = 44 ∨ c = 76 ∨ c = 92 ∨ c = 108 ∨ c = 124 ∨ c = 172
  · rw [if_pos e] at H
    obtain ⟨v, hL, H⟩ := Option.bind_eq_some_iff.mp H
    simp only [Option.some.injEq, Prod.mk.injEq] at H
    obtain ⟨rfl, rfl⟩ := H
    exact fairleadref06_Step.rx k A0 c0 l0 d0 d1 d2 d3 d4 d5 d6 d7 d8 t n jt jf K c (c - 8) v s w hr0 hc0 ht ht1 hx (by rcases e with rfl | rfl | rfl | rfl | rfl | rfl | rfl | rfl <;> simp) hL
  rw [if_neg e] at H
  clear e
  cases H
end Go.Proofs.Yteojfjlklikaoaa.M
