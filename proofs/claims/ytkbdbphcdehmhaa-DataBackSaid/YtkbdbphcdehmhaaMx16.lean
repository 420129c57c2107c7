-- Laid by a program (wip/tools/myprint.py) out of the loaded program's own print: for each Go function a Lean function and the proof of its contract.
import Derived.Test.YtkbdbphcdehmhaaMx0
import Derived.Test.YtkbdbphcdehmhaaMx1
import Derived.Test.YtkbdbphcdehmhaaMx3
import Derived.Test.YtkbdbphcdehmhaaMx13
namespace Go.Proofs.Ytkbdbphcdehmhaa.M
open Go.RowKit Go.Proofs.YtkbdbphcdehmhaaW.PrintWords Go.Proofs.YtkbdbphcdehmhaaW.PrintLast Go.Proofs.YtkbdbphcdehmhaaW.PrintMore
attribute [local go_sem] max2_int min2_int max_two min_two max_three min_three max_four min_four   -- for this text's walks alone
set_option linter.unusedVariables false
set_option linter.unusedSimpArgs false

attribute [local go_sem high] eqA26
/-! ### fairleadlaw04_DataBack: function 8 -/
def fairleadlaw04_DataBack.j0 : Nat → List Int → Bool → Bool → Option (Bool)
 | 0, _, _, _ => none
 | k + 1, x1, x5, x23 => if x23 = true then (some false) else ((data_Of.f k x1).bind fun bt382 => (if bt382.2.2.2.2.2.2.2.2.2 = 0 then ((data_Bytes.f k bt382.1 bt382.2.1 bt382.2.2.1 bt382.2.2.2.1 bt382.2.2.2.2.1 bt382.2.2.2.2.2.1 bt382.2.2.2.2.2.2.1 bt382.2.2.2.2.2.2.2.1 bt382.2.2.2.2.2.2.2.2.1).bind fun t393 => (if (strOfNums t393).toList = (strOfNums x1).toList then (if x5 = true then (some ((bt382.2.2.2.2.2.2.2.2.2 == 0) == ((x1.length : Int) == 64))) else (some false)) else (some false))) else (if x5 = true then (some ((bt382.2.2.2.2.2.2.2.2.2 == 0) == ((x1.length : Int) == 64))) else (some false))))
def fairleadlaw04_DataBack.f (k : Nat) (a0_0 : Int) (a0_1 : Int) (a0_2 : Int) (a0_3 : Int) (a0_4 : Int) (a0_5 : Int) (a0_6 : Int) (a0_7 : Int) (a0_8 : Int) (l1 : List Int) : Option (Bool) := (fairleadlaw04_awake.f k).bind fun t367 => ((data_Bytes.f k a0_0 a0_1 a0_2 a0_3 a0_4 a0_5 a0_6 a0_7 a0_8).bind fun t368 => ((data_Of.f k t368).bind fun bt371 => (if (!(bt371.1 == a0_0) || (!(bt371.2.1 == a0_1) || (!(bt371.2.2.1 == a0_2) || ((!(bt371.2.2.2.1 == a0_3) || (!(bt371.2.2.2.2.1 == a0_4) || (!(bt371.2.2.2.2.2.1 == a0_5) || (!(bt371.2.2.2.2.2.2.1 == a0_6) || (!(bt371.2.2.2.2.2.2.2.1 == a0_7) || (!(bt371.2.2.2.2.2.2.2.2.1 == a0_8))))))))))) = true then (fairleadlaw04_DataBack.j0 k l1 t367 true) else (fairleadlaw04_DataBack.j0 k l1 t367 (bt371.2.2.2.2.2.2.2.2.2 != 0)))))
theorem fairleadlaw04_DataBack.mono_l : ∀ k, (∀ y0 y1 y2, LeO (fairleadlaw04_DataBack.j0 k y0 y1 y2) (fairleadlaw04_DataBack.j0 (k + 1) y0 y1 y2))
 | 0 => fun _ _ _ r h => by simp [fairleadlaw04_DataBack.j0] at h
 | k + 1 => by
  have ih0 := fairleadlaw04_DataBack.mono_l k
  ·intro y0 y1 y2
   unfold fairleadlaw04_DataBack.j0
   repeat' first
   | (with_reducible exact ih0 _ _ _)
   | (with_reducible exact data_Bytes.mono _ _ _ _ _ _ _ _ _ _)
   | (with_reducible exact data_Of.mono _ _)
   | (with_reducible exact fairleadlaw04_awake.mono _)
   | (with_reducible exact LeO.refl _)
   | (with_reducible exact LeO.none _)
   | (with_reducible refine LeO.ite ?_ ?_)
   | (with_reducible refine LeO.bind ?_ (fun _ => ?_))
   | exact ih0 _ _ _
   | exact data_Bytes.mono _ _ _ _ _ _ _ _ _ _
   | exact data_Of.mono _ _
   | exact fairleadlaw04_awake.mono _
   | exact LeO.none _
   | refine LeO.ite ?_ ?_
   | refine LeO.bind ?_ (fun _ => ?_)
theorem fairleadlaw04_DataBack.mono : ∀ a0 a1 a2 a3 a4 a5 a6 a7 a8 a9 k, LeO (fairleadlaw04_DataBack.f k a0 a1 a2 a3 a4 a5 a6 a7 a8 a9) (fairleadlaw04_DataBack.f (k + 1) a0 a1 a2 a3 a4 a5 a6 a7 a8 a9) := by
 intro a0 a1 a2 a3 a4 a5 a6 a7 a8 a9 k
 have ih0 := fairleadlaw04_DataBack.mono_l k
 unfold fairleadlaw04_DataBack.f
 repeat' first
   | (with_reducible exact ih0 _ _ _)
   | (with_reducible exact data_Bytes.mono _ _ _ _ _ _ _ _ _ _)
   | (with_reducible exact data_Of.mono _ _)
   | (with_reducible exact fairleadlaw04_awake.mono _)
   | (with_reducible exact LeO.refl _)
   | (with_reducible exact LeO.none _)
   | (with_reducible refine LeO.ite ?_ ?_)
   | (with_reducible refine LeO.bind ?_ (fun _ => ?_))
   | exact ih0 _ _ _
   | exact data_Bytes.mono _ _ _ _ _ _ _ _ _ _
   | exact data_Of.mono _ _
   | exact fairleadlaw04_awake.mono _
   | exact LeO.none _
   | refine LeO.ite ?_ ?_
   | refine LeO.bind ?_ (fun _ => ?_)
def fairleadlaw04_DataBack.T6 : Bool × List (List Nat × List Nat) := (true, [([], []), ([0], [0]), ([1], [1]), ([2], [2]), ([3, 2, 2], [2, 3]), ([4, 2], [2, 4]), ([2], [2]), ([6, 2], [2, 6]), ([5, 7, 2], [2, 5, 7]), ([2, 8], [2, 8])])
def fairleadlaw04_DataBack.B6 : List Nat := [0, 1, 3, 7, 15, 31, 7, 71, 255, 511]
theorem fairleadlaw04_DataBack.tab6 : rtab .any (opsOf Try.f8 6) = fairleadlaw04_DataBack.T6 := by kernel_rfl
theorem fairleadlaw04_DataBack.bits6 : waitsOk fairleadlaw04_DataBack.T6.2 fairleadlaw04_DataBack.B6 = true := by kernel_rfl
set_option maxHeartbeats 8000000 in
set_option maxRecDepth 100000 in
theorem fairleadlaw04_DataBack.calls (k : Nat) (a0_0 : Int) (a0_1 : Int) (a0_2 : Int) (a0_3 : Int) (a0_4 : Int) (a0_5 : Int) (a0_6 : Int) (a0_7 : Int) (a0_8 : Int) (A1 : Option Addr) (c1 : Nat) (l1 : List Int) (r : Bool) (w : World) (hr1 : Kd.C (Kd.int .u8) w A1 l1.length l1) (hc1 : l1.length ≤ c1) (h : fairleadlaw04_DataBack.f k a0_0 a0_1 a0_2 a0_3 a0_4 a0_5 a0_6 a0_7 a0_8 l1 = some r) :
  Calls Try.prog 8 #[.agg #[.int .u32 a0_0, .int .u32 a0_1, .int .u64 a0_2, .int .u64 a0_3, .int .u64 a0_4, .int .u64 a0_5, .int .u64 a0_6, .int .u64 a0_7, .int .u64 a0_8], .slice A1 l1.length c1] w fun e w' => e = .returned (.bool r) ∧ Below w.heap.size w w' := by
 have hu26 := Try.underlying26
 have HR1 := Aside0.mk hr1
 have HC1 := Aside0.mk hc1
 clear hr1 hc1
 have HB := Aside0.mk (Below.refl w.heap.size w)
 have H : ((fairleadlaw04_awake.f k).bind fun t367 => ((data_Bytes.f k a0_0 a0_1 a0_2 a0_3 a0_4 a0_5 a0_6 a0_7 a0_8).bind fun t368 => ((data_Of.f k t368).bind fun bt371 => (if (!(bt371.1 == a0_0) || (!(bt371.2.1 == a0_1) || (!(bt371.2.2.1 == a0_2) || ((!(bt371.2.2.2.1 == a0_3) || (!(bt371.2.2.2.2.1 == a0_4) || (!(bt371.2.2.2.2.2.1 == a0_5) || (!(bt371.2.2.2.2.2.2.1 == a0_6) || (!(bt371.2.2.2.2.2.2.2.1 == a0_7) || (!(bt371.2.2.2.2.2.2.2.2.1 == a0_8))))))))))) = true then (fairleadlaw04_DataBack.j0 k l1 t367 true) else (fairleadlaw04_DataBack.j0 k l1 t367 (bt371.2.2.2.2.2.2.2.2.2 != 0)))))) = some r := h
 clear h
 replace H := Option.bind_eq_some_iff.mp H
 obtain ⟨t367, A30, H⟩ := H
 replace H : ((data_Bytes.f k a0_0 a0_1 a0_2 a0_3 a0_4 a0_5 a0_6 a0_7 a0_8).bind fun t368 => ((data_Of.f k t368).bind fun bt371 => (if (!(bt371.1 == a0_0) || (!(bt371.2.1 == a0_1) || (!(bt371.2.2.1 == a0_2) || ((!(bt371.2.2.2.1 == a0_3) || (!(bt371.2.2.2.2.1 == a0_4) || (!(bt371.2.2.2.2.2.1 == a0_5) || (!(bt371.2.2.2.2.2.2.1 == a0_6) || (!(bt371.2.2.2.2.2.2.2.1 == a0_7) || (!(bt371.2.2.2.2.2.2.2.2.1 == a0_8))))))))))) = true then (fairleadlaw04_DataBack.j0 k l1 t367 true) else (fairleadlaw04_DataBack.j0 k l1 t367 (bt371.2.2.2.2.2.2.2.2.2 != 0))))) = some r := H
 have A3 := Aside0.mk A30
 clear A30
 replace H := Option.bind_eq_some_iff.mp H
 obtain ⟨t368, A40, H⟩ := H
 replace H : ((data_Of.f k t368).bind fun bt371 => (if (!(bt371.1 == a0_0) || (!(bt371.2.1 == a0_1) || (!(bt371.2.2.1 == a0_2) || ((!(bt371.2.2.2.1 == a0_3) || (!(bt371.2.2.2.2.1 == a0_4) || (!(bt371.2.2.2.2.2.1 == a0_5) || (!(bt371.2.2.2.2.2.2.1 == a0_6) || (!(bt371.2.2.2.2.2.2.2.1 == a0_7) || (!(bt371.2.2.2.2.2.2.2.2.1 == a0_8))))))))))) = true then (fairleadlaw04_DataBack.j0 k l1 t367 true) else (fairleadlaw04_DataBack.j0 k l1 t367 (bt371.2.2.2.2.2.2.2.2.2 != 0)))) = some r := H
 have A4 := Aside0.mk A40
 clear A40
 replace H := Option.bind_eq_some_iff.mp H
 obtain ⟨⟨t371, t372, t373, t374, t375, t376, t377, t378, t379, t380⟩, A50, H⟩ := H
 replace H : (if (!(t371 == a0_0) || (!(t372 == a0_1) || (!(t373 == a0_2) || ((!(t374 == a0_3) || (!(t375 == a0_4) || (!(t376 == a0_5) || (!(t377 == a0_6) || (!(t378 == a0_7) || (!(t379 == a0_8))))))))))) = true then (fairleadlaw04_DataBack.j0 k l1 t367 true) else (fairleadlaw04_DataBack.j0 k l1 t367 (t380 != 0))) = some r := H
 have A5 := Aside0.mk A50
 clear A50
 have HC6 := Aside0.mk H
 clear H
 go_enter Try.func8, Try.ntmps8
 go_upto_region 3 with (first | ((with_reducible refine gate_dst (N := 2) rfl ?_); (try (refine gate_guard (by rfl) ?_; dsimp only)); refine box_event ?hg (N := 2) ?hd (cs := #[.int .u32 a0_0, .int .u32 a0_1, .int .u64 a0_2, .int .u64 a0_3, .int .u64 a0_4, .int .u64 a0_5, .int .u64 a0_6, .int .u64 a0_7, .int .u64 a0_8]) (t := 26) ?hr ?_; (case hd => rfl); (case hg => rfl); (case hr => first | (go_simp; done) | (go_simp; rfl)); intro gb366 hg w7 hbox hb; have n0_ := Aside0.mk (below_step (by repeat (first | (with_reducible first | exact HB.out | apply below_alloc | apply pw_below_drewN | apply below_drew1) | exact HB.out)) hb); have n1_ := Aside0.mk (hbox); have n2_ := Aside0.mk ((by rw [hg]; exact (below_size (by repeat (first | (with_reducible first | exact HB.out | apply below_alloc | apply pw_below_drewN | apply below_drew1) | exact HB.out))) : w.heap.size ≤ gb366)); have n3_ := Aside0.mk ((by rw [hg]; exact (below_size (by repeat (first | (with_reducible first | exact HB.out | apply below_alloc | apply pw_below_drewN | apply below_drew1) | exact HB.out))) : w.heap.size ≤ gb366)); clear HB; have HB := n0_; have BK366 := n1_; have GW366 := n2_; have GE366 := n3_; clear n0_ n1_ n2_ n3_; clear hb hbox hg) | ((with_reducible refine gate_callee (f := 9) rfl ?_); refine goesL_ (some 10) rfl rfl Try.func9 (by kernel_rfl) rfl #[] rfl (by (try simp only [List.map_toArray, List.map_cons, List.map_nil]); first | done | rfl | (simp only [List.length_drop, List.length_take]; rfl)) ?_; (with_reducible refine (fairleadlaw04_awake.calls k  t367 _ A3.out).mono ?_); rintro e w8 ⟨rfl, hb⟩; refine ⟨_, rfl, ?_⟩; have n0_ := Aside0.mk (blk_below (g := gb366) (o := .cells #[.int .u32 a0_0, .int .u32 a0_1, .int .u64 a0_2, .int .u64 a0_3, .int .u64 a0_4, .int .u64 a0_5, .int .u64 a0_6, .int .u64 a0_7, .int .u64 a0_8] 26 (0, 0)) (by (with_reducible repeat (first | refine blk_drewN ?_ _ | refine blk_drew ?_ | refine blk_alloc ?_ _)); exact BK366.out) hb); have n1_ := Aside0.mk (below_step (by repeat (first | (with_reducible first | exact HB.out | apply below_alloc | apply pw_below_drewN | apply below_drew1 | refine below_set ?_ GE366.out) | exact HB.out)) hb); clear BK366; clear HB; have BK366 := n0_; have HB := n1_; clear n0_ n1_; (try clear hb); (try clear hb2); (try clear hk); (try clear hi); have hcz9_0 : w8.cell? ⟨gb366, 0, none⟩ = some (.int .u32 a0_0) := (blk_cell BK366.out 0).trans rfl; have hcz9_1 : w8.cell? ⟨gb366, 1, none⟩ = some (.int .u32 a0_1) := (blk_cell BK366.out 1).trans rfl; have hcz9_2 : w8.cell? ⟨gb366, 2, none⟩ = some (.int .u64 a0_2) := (blk_cell BK366.out 2).trans rfl; have hcz9_3 : w8.cell? ⟨gb366, 3, none⟩ = some (.int .u64 a0_3) := (blk_cell BK366.out 3).trans rfl; have hcz9_4 : w8.cell? ⟨gb366, 4, none⟩ = some (.int .u64 a0_4) := (blk_cell BK366.out 4).trans rfl; have hcz9_5 : w8.cell? ⟨gb366, 5, none⟩ = some (.int .u64 a0_5) := (blk_cell BK366.out 5).trans rfl; have hcz9_6 : w8.cell? ⟨gb366, 6, none⟩ = some (.int .u64 a0_6) := (blk_cell BK366.out 6).trans rfl; have hcz9_7 : w8.cell? ⟨gb366, 7, none⟩ = some (.int .u64 a0_7) := (blk_cell BK366.out 7).trans rfl; have hcz9_8 : w8.cell? ⟨gb366, 8, none⟩ = some (.int .u64 a0_8) := (blk_cell BK366.out 8).trans rfl; have hfz9_0 := blk_frozen BK366.out 0; have hfz9_1 := blk_frozen BK366.out 1; have hfz9_2 := blk_frozen BK366.out 2; have hfz9_3 := blk_frozen BK366.out 3; have hfz9_4 := blk_frozen BK366.out 4; have hfz9_5 := blk_frozen BK366.out 5; have hfz9_6 := blk_frozen BK366.out 6; have hfz9_7 := blk_frozen BK366.out 7; have hfz9_8 := blk_frozen BK366.out 8) | ((with_reducible refine gate_callee (f := 10) rfl ?_); refine goesL_ (some 13) rfl rfl Try.func10 (by kernel_rfl) rfl #[.agg #[.int .u32 a0_0, .int .u32 a0_1, .int .u64 a0_2, .int .u64 a0_3, .int .u64 a0_4, .int .u64 a0_5, .int .u64 a0_6, .int .u64 a0_7, .int .u64 a0_8]] rfl (by (try simp only [List.map_toArray, List.map_cons, List.map_nil]); first | done | rfl | (simp only [List.length_drop, List.length_take]; rfl)) ?_; (with_reducible refine (data_Bytes.calls k a0_0 a0_1 a0_2 a0_3 a0_4 a0_5 a0_6 a0_7 a0_8 t368 _ A4.out).mono ?_); rintro e w10 ⟨v369, rfl, ho0, hb⟩; refine ⟨_, rfl, ?_⟩; have n0_ := Aside0.mk (Kd.R_lower ho0 (below_size (by repeat (first | (with_reducible first | exact HB.out | apply below_alloc | apply pw_below_drewN | apply below_drew1 | refine below_set ?_ GE366.out) | exact HB.out)))); have n1_ := Aside0.mk (blk_below (g := gb366) (o := .cells #[.int .u32 a0_0, .int .u32 a0_1, .int .u64 a0_2, .int .u64 a0_3, .int .u64 a0_4, .int .u64 a0_5, .int .u64 a0_6, .int .u64 a0_7, .int .u64 a0_8] 26 (0, 0)) (by (with_reducible repeat (first | refine blk_drewN ?_ _ | refine blk_drew ?_ | refine blk_alloc ?_ _)); exact BK366.out) hb); have n2_ := Aside0.mk (below_step (by repeat (first | (with_reducible first | exact HB.out | apply below_alloc | apply pw_below_drewN | apply below_drew1 | refine below_set ?_ GE366.out) | exact HB.out)) hb); clear BK366; clear HB; have HO370 := n0_; have BK366 := n1_; have HB := n2_; clear n0_ n1_ n2_; (try clear hb); (try clear hb2); (try clear hk); (try clear hi); (try clear ho0); obtain ⟨Ao11, co11, eo11⟩ := Kd.R_slice HO370.out; subst eo11) | ((with_reducible refine gate_callee (f := 15) rfl ?_); refine goesL_ (some 14) rfl rfl Try.func15 (by kernel_rfl) rfl #[.slice Ao11 t368.length co11] rfl (by (try simp only [List.map_toArray, List.map_cons, List.map_nil]); first | done | rfl | (simp only [List.length_drop, List.length_take]; rfl)) ?_; (with_reducible refine (data_Of.calls k _ _ t368 t371 t372 t373 t374 t375 t376 t377 t378 t379 t380 _ ?side1 ?side2 A5.out).mono ?_); (case side1 => repeat (first | exact (Kd.R_reads' HO370.out).2.2 | (with_reducible refine Kd.C_alloc ?_ _) | (with_reducible refine Kd.C_drewN ?_ _) | (with_reducible refine Kd.C_drew ?_))); (case side2 => exact (Kd.R_reads' HO370.out).2.1); rintro e w12 ⟨rfl, hb⟩; refine ⟨_, rfl, ?_⟩; have n0_ := Aside0.mk (Kd.R_below (by (with_reducible repeat (first | apply Kd.R_alloc | apply Kd.R_drewN | apply Kd.R_drew)); exact HO370.out) hb); have n1_ := Aside0.mk (blk_below (g := gb366) (o := .cells #[.int .u32 a0_0, .int .u32 a0_1, .int .u64 a0_2, .int .u64 a0_3, .int .u64 a0_4, .int .u64 a0_5, .int .u64 a0_6, .int .u64 a0_7, .int .u64 a0_8] 26 (0, 0)) (by (with_reducible repeat (first | refine blk_drewN ?_ _ | refine blk_drew ?_ | refine blk_alloc ?_ _)); exact BK366.out) hb); have n2_ := Aside0.mk (below_step (by repeat (first | (with_reducible first | exact HB.out | apply below_alloc | apply pw_below_drewN | apply below_drew1 | refine below_set ?_ GE366.out) | exact HB.out)) hb); clear HO370; clear BK366; clear HB; have HO370 := n0_; have BK366 := n1_; have HB := n2_; clear n0_ n1_ n2_; (try clear hb); (try clear hb2); (try clear hk); (try clear hi)) | ((with_reducible refine gate_dst (N := 6) rfl ?_); (try (refine gate_guard (by rfl) ?_; dsimp only)); refine box_event ?hg (N := 6) ?hd (cs := #[.int .u32 0, .int .u32 0, .int .u64 0, .int .u64 0, .int .u64 0, .int .u64 0, .int .u64 0, .int .u64 0, .int .u64 0]) (t := 26) ?hr ?_; (case hd => rfl); (case hg => rfl); (case hr => first | (go_simp; done) | (go_simp; rfl)); intro gb381 hg w13 hbox hb; have n0_ := Aside0.mk (Kd.R_below (by (with_reducible repeat (first | apply Kd.R_alloc | apply Kd.R_drewN | apply Kd.R_drew)); exact HO370.out) hb); have n1_ := Aside0.mk (blk_below (g := gb366) (o := .cells #[.int .u32 a0_0, .int .u32 a0_1, .int .u64 a0_2, .int .u64 a0_3, .int .u64 a0_4, .int .u64 a0_5, .int .u64 a0_6, .int .u64 a0_7, .int .u64 a0_8] 26 (0, 0)) (by (with_reducible repeat (first | refine blk_drewN ?_ _ | refine blk_drew ?_ | refine blk_alloc ?_ _)); exact BK366.out) hb); have n2_ := Aside0.mk (below_step (by repeat (first | (with_reducible first | exact HB.out | apply below_alloc | apply pw_below_drewN | apply below_drew1 | refine below_set ?_ GE366.out) | exact HB.out)) hb); have n3_ := Aside0.mk (hbox); have n4_ := Aside0.mk ((by rw [hg]; exact (below_size (by repeat (first | (with_reducible first | exact HB.out | apply below_alloc | apply pw_below_drewN | apply below_drew1 | refine below_set ?_ GE366.out) | exact HB.out))) : w.heap.size ≤ gb381)); have n5_ := Aside0.mk ((by rw [hg]; exact (below_size (by repeat (first | (with_reducible first | exact HB.out | apply below_alloc | apply pw_below_drewN | apply below_drew1 | refine below_set ?_ GE366.out) | exact HB.out))) : w.heap.size ≤ gb381)); have n6_ := Aside0.mk ((by rw [hg]; exact Nat.ne_of_lt (blk_lt (g := gb366) (o := .cells #[.int .u32 a0_0, .int .u32 a0_1, .int .u64 a0_2, .int .u64 a0_3, .int .u64 a0_4, .int .u64 a0_5, .int .u64 a0_6, .int .u64 a0_7, .int .u64 a0_8] 26 (0, 0)) (by (with_reducible repeat (first | refine blk_drewN ?_ _ | refine blk_drew ?_ | refine blk_alloc ?_ _)); exact BK366.out)) : gb366 ≠ gb381)); have n7_ := Aside0.mk ((by rw [hg]; exact Nat.ne_of_gt (blk_lt (g := gb366) (o := .cells #[.int .u32 a0_0, .int .u32 a0_1, .int .u64 a0_2, .int .u64 a0_3, .int .u64 a0_4, .int .u64 a0_5, .int .u64 a0_6, .int .u64 a0_7, .int .u64 a0_8] 26 (0, 0)) (by (with_reducible repeat (first | refine blk_drewN ?_ _ | refine blk_drew ?_ | refine blk_alloc ?_ _)); exact BK366.out)) : gb381 ≠ gb366)); clear HO370; clear BK366; clear HB; have HO370 := n0_; have BK366 := n1_; have HB := n2_; have BK381 := n3_; have GW381 := n4_; have GE381 := n5_; have NB366_381 := n6_; have NB381_366 := n7_; clear n0_ n1_ n2_ n3_ n4_ n5_ n6_ n7_; clear hb hbox hg; have hnb14 := NB381_366.out; have hnc14 := NB366_381.out; have hcz15_0 : w13.cell? ⟨gb381, 0, none⟩ = some (.int .u32 0) := (blk_cell BK381.out 0).trans rfl; have hcz15_1 : w13.cell? ⟨gb381, 1, none⟩ = some (.int .u32 0) := (blk_cell BK381.out 1).trans rfl; have hcz15_2 : w13.cell? ⟨gb381, 2, none⟩ = some (.int .u64 0) := (blk_cell BK381.out 2).trans rfl; have hcz15_3 : w13.cell? ⟨gb381, 3, none⟩ = some (.int .u64 0) := (blk_cell BK381.out 3).trans rfl; have hcz15_4 : w13.cell? ⟨gb381, 4, none⟩ = some (.int .u64 0) := (blk_cell BK381.out 4).trans rfl; have hcz15_5 : w13.cell? ⟨gb381, 5, none⟩ = some (.int .u64 0) := (blk_cell BK381.out 5).trans rfl; have hcz15_6 : w13.cell? ⟨gb381, 6, none⟩ = some (.int .u64 0) := (blk_cell BK381.out 6).trans rfl; have hcz15_7 : w13.cell? ⟨gb381, 7, none⟩ = some (.int .u64 0) := (blk_cell BK381.out 7).trans rfl; have hcz15_8 : w13.cell? ⟨gb381, 8, none⟩ = some (.int .u64 0) := (blk_cell BK381.out 8).trans rfl; have hfz15_0 := blk_frozen BK381.out 0; have hfz15_1 := blk_frozen BK381.out 1; have hfz15_2 := blk_frozen BK381.out 2; have hfz15_3 := blk_frozen BK381.out 3; have hfz15_4 := blk_frozen BK381.out 4; have hfz15_5 := blk_frozen BK381.out 5; have hfz15_6 := blk_frozen BK381.out 6; have hfz15_7 := blk_frozen BK381.out 7; have hfz15_8 := blk_frozen BK381.out 8))
 (try simp only [Act.put, List.setIfInBounds_toArray, List.set_cons_zero, List.set_cons_succ])
 go_cut [23] (fun v23 wc => ∃ (kq : Nat) (x23_5 : Bool), v23 = .bool x23_5 ∧ Aside0 (fairleadlaw04_DataBack.j0 kq l1 t367 x23_5 = some r) ∧ Aside0 (kq ≤ k) ∧ Aside0 (wc.heap[gb366]? = some (.cells #[.int .u32 a0_0, .int .u32 a0_1, .int .u64 a0_2, .int .u64 a0_3, .int .u64 a0_4, .int .u64 a0_5, .int .u64 a0_6, .int .u64 a0_7, .int .u64 a0_8] 26 (0, 0))) ∧ Aside0 (wc.heap[gb381]? = some (.cells #[.int .u32 t371, .int .u32 t372, .int .u64 t373, .int .u64 t374, .int .u64 t375, .int .u64 t376, .int .u64 t377, .int .u64 t378, .int .u64 t379] 26 (0, 0))) ∧ Aside0 (Below w.heap.size w wc))
 case first =>
  have H := HC6.out
  clear HC6
  by_cases c16 : (!(t371 == a0_0) || (!(t372 == a0_1) || (!(t373 == a0_2) || ((!(t374 == a0_3) || (!(t375 == a0_4) || (!(t376 == a0_5) || (!(t377 == a0_6) || (!(t378 == a0_7) || (!(t379 == a0_8))))))))))) = true
  ·rw [if_pos c16] at H
   have c16b0 : (!(t371 == a0_0) || (!(t372 == a0_1) || (!(t373 == a0_2) || ((!(t374 == a0_3) || (!(t375 == a0_4) || (!(t376 == a0_5) || (!(t377 == a0_6) || (!(t378 == a0_7) || (!(t379 == a0_8))))))))))) = true := c16
   clear c16
   (first | rw [c16b0] | (simp only [i64_w, i32_w]; rw [c16b0]) | skip)
   have H' := Aside0.mk H
   clear H
   have hnb17 := NB381_366.out
   have hnc17 := NB366_381.out
   have hcz18_0 : w13.cell? ⟨gb381, 0, none⟩ = some (.int .u32 0) := (blk_cell BK381.out 0).trans rfl
   have hcz18_1 : w13.cell? ⟨gb381, 1, none⟩ = some (.int .u32 0) := (blk_cell BK381.out 1).trans rfl
   have hcz18_2 : w13.cell? ⟨gb381, 2, none⟩ = some (.int .u64 0) := (blk_cell BK381.out 2).trans rfl
   have hcz18_3 : w13.cell? ⟨gb381, 3, none⟩ = some (.int .u64 0) := (blk_cell BK381.out 3).trans rfl
   have hcz18_4 : w13.cell? ⟨gb381, 4, none⟩ = some (.int .u64 0) := (blk_cell BK381.out 4).trans rfl
   have hcz18_5 : w13.cell? ⟨gb381, 5, none⟩ = some (.int .u64 0) := (blk_cell BK381.out 5).trans rfl
   have hcz18_6 : w13.cell? ⟨gb381, 6, none⟩ = some (.int .u64 0) := (blk_cell BK381.out 6).trans rfl
   have hcz18_7 : w13.cell? ⟨gb381, 7, none⟩ = some (.int .u64 0) := (blk_cell BK381.out 7).trans rfl
   have hcz18_8 : w13.cell? ⟨gb381, 8, none⟩ = some (.int .u64 0) := (blk_cell BK381.out 8).trans rfl
   have hfz18_0 := blk_frozen BK381.out 0
   have hfz18_1 := blk_frozen BK381.out 1
   have hfz18_2 := blk_frozen BK381.out 2
   have hfz18_3 := blk_frozen BK381.out 3
   have hfz18_4 := blk_frozen BK381.out 4
   have hfz18_5 := blk_frozen BK381.out 5
   have hfz18_6 := blk_frozen BK381.out 6
   have hfz18_7 := blk_frozen BK381.out 7
   have hfz18_8 := blk_frozen BK381.out 8
   have hcz19_0 : w13.cell? ⟨gb366, 0, none⟩ = some (.int .u32 a0_0) := (blk_cell BK366.out 0).trans rfl
   have hcz19_1 : w13.cell? ⟨gb366, 1, none⟩ = some (.int .u32 a0_1) := (blk_cell BK366.out 1).trans rfl
   have hcz19_2 : w13.cell? ⟨gb366, 2, none⟩ = some (.int .u64 a0_2) := (blk_cell BK366.out 2).trans rfl
   have hcz19_3 : w13.cell? ⟨gb366, 3, none⟩ = some (.int .u64 a0_3) := (blk_cell BK366.out 3).trans rfl
   have hcz19_4 : w13.cell? ⟨gb366, 4, none⟩ = some (.int .u64 a0_4) := (blk_cell BK366.out 4).trans rfl
   have hcz19_5 : w13.cell? ⟨gb366, 5, none⟩ = some (.int .u64 a0_5) := (blk_cell BK366.out 5).trans rfl
   have hcz19_6 : w13.cell? ⟨gb366, 6, none⟩ = some (.int .u64 a0_6) := (blk_cell BK366.out 6).trans rfl
   have hcz19_7 : w13.cell? ⟨gb366, 7, none⟩ = some (.int .u64 a0_7) := (blk_cell BK366.out 7).trans rfl
   have hcz19_8 : w13.cell? ⟨gb366, 8, none⟩ = some (.int .u64 a0_8) := (blk_cell BK366.out 8).trans rfl
   have hfz19_0 := blk_frozen BK366.out 0
   have hfz19_1 := blk_frozen BK366.out 1
   have hfz19_2 := blk_frozen BK366.out 2
   have hfz19_3 := blk_frozen BK366.out 3
   have hfz19_4 := blk_frozen BK366.out 4
   have hfz19_5 := blk_frozen BK366.out 5
   have hfz19_6 := blk_frozen BK366.out 6
   have hfz19_7 := blk_frozen BK366.out 7
   have hfz19_8 := blk_frozen BK366.out 8
   go_wp2
   go_meet
   case rel => exact ⟨_, (true), (by first | rfl | (simp; done) | (simp [*]; done)), H', ⟨by first | omega | exact Nat.le_refl _⟩, ⟨by (with_reducible repeat (first | refine blk_drewN ?_ _ | refine blk_drew ?_ | refine blk_alloc ?_ _)); refine blk_far ?_ NB366_381.out _; (with_reducible repeat (first | refine blk_drewN ?_ _ | refine blk_drew ?_ | refine blk_alloc ?_ _)); refine blk_far ?_ NB366_381.out _; (with_reducible repeat (first | refine blk_drewN ?_ _ | refine blk_drew ?_ | refine blk_alloc ?_ _)); refine blk_far ?_ NB366_381.out _; (with_reducible repeat (first | refine blk_drewN ?_ _ | refine blk_drew ?_ | refine blk_alloc ?_ _)); refine blk_far ?_ NB366_381.out _; (with_reducible repeat (first | refine blk_drewN ?_ _ | refine blk_drew ?_ | refine blk_alloc ?_ _)); refine blk_far ?_ NB366_381.out _; (with_reducible repeat (first | refine blk_drewN ?_ _ | refine blk_drew ?_ | refine blk_alloc ?_ _)); refine blk_far ?_ NB366_381.out _; (with_reducible repeat (first | refine blk_drewN ?_ _ | refine blk_drew ?_ | refine blk_alloc ?_ _)); refine blk_far ?_ NB366_381.out _; (with_reducible repeat (first | refine blk_drewN ?_ _ | refine blk_drew ?_ | refine blk_alloc ?_ _)); refine blk_far ?_ NB366_381.out _; (with_reducible repeat (first | refine blk_drewN ?_ _ | refine blk_drew ?_ | refine blk_alloc ?_ _)); refine blk_far ?_ NB366_381.out _; (with_reducible repeat (first | refine blk_drewN ?_ _ | refine blk_drew ?_ | refine blk_alloc ?_ _)); exact BK366.out⟩, ⟨by (with_reducible repeat (first | refine blk_drewN ?_ _ | refine blk_drew ?_ | refine blk_alloc ?_ _)); refine blk_put (cs := #[.int .u32 t371, .int .u32 t372, .int .u64 t373, .int .u64 t374, .int .u64 t375, .int .u64 t376, .int .u64 t377, .int .u64 t378, .int .u64 0]) ?_ 8 _ rfl; (with_reducible repeat (first | refine blk_drewN ?_ _ | refine blk_drew ?_ | refine blk_alloc ?_ _)); refine blk_put (cs := #[.int .u32 t371, .int .u32 t372, .int .u64 t373, .int .u64 t374, .int .u64 t375, .int .u64 t376, .int .u64 t377, .int .u64 0, .int .u64 0]) ?_ 7 _ rfl; (with_reducible repeat (first | refine blk_drewN ?_ _ | refine blk_drew ?_ | refine blk_alloc ?_ _)); refine blk_put (cs := #[.int .u32 t371, .int .u32 t372, .int .u64 t373, .int .u64 t374, .int .u64 t375, .int .u64 t376, .int .u64 0, .int .u64 0, .int .u64 0]) ?_ 6 _ rfl; (with_reducible repeat (first | refine blk_drewN ?_ _ | refine blk_drew ?_ | refine blk_alloc ?_ _)); refine blk_put (cs := #[.int .u32 t371, .int .u32 t372, .int .u64 t373, .int .u64 t374, .int .u64 t375, .int .u64 0, .int .u64 0, .int .u64 0, .int .u64 0]) ?_ 5 _ rfl; (with_reducible repeat (first | refine blk_drewN ?_ _ | refine blk_drew ?_ | refine blk_alloc ?_ _)); refine blk_put (cs := #[.int .u32 t371, .int .u32 t372, .int .u64 t373, .int .u64 t374, .int .u64 0, .int .u64 0, .int .u64 0, .int .u64 0, .int .u64 0]) ?_ 4 _ rfl; (with_reducible repeat (first | refine blk_drewN ?_ _ | refine blk_drew ?_ | refine blk_alloc ?_ _)); refine blk_put (cs := #[.int .u32 t371, .int .u32 t372, .int .u64 t373, .int .u64 0, .int .u64 0, .int .u64 0, .int .u64 0, .int .u64 0, .int .u64 0]) ?_ 3 _ rfl; (with_reducible repeat (first | refine blk_drewN ?_ _ | refine blk_drew ?_ | refine blk_alloc ?_ _)); refine blk_put (cs := #[.int .u32 t371, .int .u32 t372, .int .u64 0, .int .u64 0, .int .u64 0, .int .u64 0, .int .u64 0, .int .u64 0, .int .u64 0]) ?_ 2 _ rfl; (with_reducible repeat (first | refine blk_drewN ?_ _ | refine blk_drew ?_ | refine blk_alloc ?_ _)); refine blk_put (cs := #[.int .u32 t371, .int .u32 0, .int .u64 0, .int .u64 0, .int .u64 0, .int .u64 0, .int .u64 0, .int .u64 0, .int .u64 0]) ?_ 1 _ rfl; (with_reducible repeat (first | refine blk_drewN ?_ _ | refine blk_drew ?_ | refine blk_alloc ?_ _)); refine blk_put (cs := #[.int .u32 0, .int .u32 0, .int .u64 0, .int .u64 0, .int .u64 0, .int .u64 0, .int .u64 0, .int .u64 0, .int .u64 0]) ?_ 0 _ rfl; (with_reducible repeat (first | refine blk_drewN ?_ _ | refine blk_drew ?_ | refine blk_alloc ?_ _)); exact BK381.out⟩, ⟨by repeat (first | (with_reducible first | exact HB.out | apply below_alloc | apply pw_below_drewN | apply below_drew1 | refine below_set ?_ GE366.out | refine below_set ?_ GE381.out) | exact HB.out)⟩⟩
  ·rw [if_neg c16] at H
   have c16b0 : (!(t371 == a0_0) || (!(t372 == a0_1) || (!(t373 == a0_2) || ((!(t374 == a0_3) || (!(t375 == a0_4) || (!(t376 == a0_5) || (!(t377 == a0_6) || (!(t378 == a0_7) || (!(t379 == a0_8))))))))))) = false := by simpa using c16
   clear c16
   (first | rw [c16b0] | (simp only [i64_w, i32_w]; rw [c16b0]) | skip)
   have H' := Aside0.mk H
   clear H
   have hnb20 := NB381_366.out
   have hnc20 := NB366_381.out
   have hcz21_0 : w13.cell? ⟨gb381, 0, none⟩ = some (.int .u32 0) := (blk_cell BK381.out 0).trans rfl
   have hcz21_1 : w13.cell? ⟨gb381, 1, none⟩ = some (.int .u32 0) := (blk_cell BK381.out 1).trans rfl
   have hcz21_2 : w13.cell? ⟨gb381, 2, none⟩ = some (.int .u64 0) := (blk_cell BK381.out 2).trans rfl
   have hcz21_3 : w13.cell? ⟨gb381, 3, none⟩ = some (.int .u64 0) := (blk_cell BK381.out 3).trans rfl
   have hcz21_4 : w13.cell? ⟨gb381, 4, none⟩ = some (.int .u64 0) := (blk_cell BK381.out 4).trans rfl
   have hcz21_5 : w13.cell? ⟨gb381, 5, none⟩ = some (.int .u64 0) := (blk_cell BK381.out 5).trans rfl
   have hcz21_6 : w13.cell? ⟨gb381, 6, none⟩ = some (.int .u64 0) := (blk_cell BK381.out 6).trans rfl
   have hcz21_7 : w13.cell? ⟨gb381, 7, none⟩ = some (.int .u64 0) := (blk_cell BK381.out 7).trans rfl
   have hcz21_8 : w13.cell? ⟨gb381, 8, none⟩ = some (.int .u64 0) := (blk_cell BK381.out 8).trans rfl
   have hfz21_0 := blk_frozen BK381.out 0
   have hfz21_1 := blk_frozen BK381.out 1
   have hfz21_2 := blk_frozen BK381.out 2
   have hfz21_3 := blk_frozen BK381.out 3
   have hfz21_4 := blk_frozen BK381.out 4
   have hfz21_5 := blk_frozen BK381.out 5
   have hfz21_6 := blk_frozen BK381.out 6
   have hfz21_7 := blk_frozen BK381.out 7
   have hfz21_8 := blk_frozen BK381.out 8
   have hcz22_0 : w13.cell? ⟨gb366, 0, none⟩ = some (.int .u32 a0_0) := (blk_cell BK366.out 0).trans rfl
   have hcz22_1 : w13.cell? ⟨gb366, 1, none⟩ = some (.int .u32 a0_1) := (blk_cell BK366.out 1).trans rfl
   have hcz22_2 : w13.cell? ⟨gb366, 2, none⟩ = some (.int .u64 a0_2) := (blk_cell BK366.out 2).trans rfl
   have hcz22_3 : w13.cell? ⟨gb366, 3, none⟩ = some (.int .u64 a0_3) := (blk_cell BK366.out 3).trans rfl
   have hcz22_4 : w13.cell? ⟨gb366, 4, none⟩ = some (.int .u64 a0_4) := (blk_cell BK366.out 4).trans rfl
   have hcz22_5 : w13.cell? ⟨gb366, 5, none⟩ = some (.int .u64 a0_5) := (blk_cell BK366.out 5).trans rfl
   have hcz22_6 : w13.cell? ⟨gb366, 6, none⟩ = some (.int .u64 a0_6) := (blk_cell BK366.out 6).trans rfl
   have hcz22_7 : w13.cell? ⟨gb366, 7, none⟩ = some (.int .u64 a0_7) := (blk_cell BK366.out 7).trans rfl
   have hcz22_8 : w13.cell? ⟨gb366, 8, none⟩ = some (.int .u64 a0_8) := (blk_cell BK366.out 8).trans rfl
   have hfz22_0 := blk_frozen BK366.out 0
   have hfz22_1 := blk_frozen BK366.out 1
   have hfz22_2 := blk_frozen BK366.out 2
   have hfz22_3 := blk_frozen BK366.out 3
   have hfz22_4 := blk_frozen BK366.out 4
   have hfz22_5 := blk_frozen BK366.out 5
   have hfz22_6 := blk_frozen BK366.out 6
   have hfz22_7 := blk_frozen BK366.out 7
   have hfz22_8 := blk_frozen BK366.out 8
   go_wp2
   go_meet
   case rel => exact ⟨_, ((t380 != 0)), (by first | rfl | (simp; done) | (simp [*]; done)), H', ⟨by first | omega | exact Nat.le_refl _⟩, ⟨by (with_reducible repeat (first | refine blk_drewN ?_ _ | refine blk_drew ?_ | refine blk_alloc ?_ _)); refine blk_far ?_ NB366_381.out _; (with_reducible repeat (first | refine blk_drewN ?_ _ | refine blk_drew ?_ | refine blk_alloc ?_ _)); refine blk_far ?_ NB366_381.out _; (with_reducible repeat (first | refine blk_drewN ?_ _ | refine blk_drew ?_ | refine blk_alloc ?_ _)); refine blk_far ?_ NB366_381.out _; (with_reducible repeat (first | refine blk_drewN ?_ _ | refine blk_drew ?_ | refine blk_alloc ?_ _)); refine blk_far ?_ NB366_381.out _; (with_reducible repeat (first | refine blk_drewN ?_ _ | refine blk_drew ?_ | refine blk_alloc ?_ _)); refine blk_far ?_ NB366_381.out _; (with_reducible repeat (first | refine blk_drewN ?_ _ | refine blk_drew ?_ | refine blk_alloc ?_ _)); refine blk_far ?_ NB366_381.out _; (with_reducible repeat (first | refine blk_drewN ?_ _ | refine blk_drew ?_ | refine blk_alloc ?_ _)); refine blk_far ?_ NB366_381.out _; (with_reducible repeat (first | refine blk_drewN ?_ _ | refine blk_drew ?_ | refine blk_alloc ?_ _)); refine blk_far ?_ NB366_381.out _; (with_reducible repeat (first | refine blk_drewN ?_ _ | refine blk_drew ?_ | refine blk_alloc ?_ _)); refine blk_far ?_ NB366_381.out _; (with_reducible repeat (first | refine blk_drewN ?_ _ | refine blk_drew ?_ | refine blk_alloc ?_ _)); exact BK366.out⟩, ⟨by (with_reducible repeat (first | refine blk_drewN ?_ _ | refine blk_drew ?_ | refine blk_alloc ?_ _)); refine blk_put (cs := #[.int .u32 t371, .int .u32 t372, .int .u64 t373, .int .u64 t374, .int .u64 t375, .int .u64 t376, .int .u64 t377, .int .u64 t378, .int .u64 0]) ?_ 8 _ rfl; (with_reducible repeat (first | refine blk_drewN ?_ _ | refine blk_drew ?_ | refine blk_alloc ?_ _)); refine blk_put (cs := #[.int .u32 t371, .int .u32 t372, .int .u64 t373, .int .u64 t374, .int .u64 t375, .int .u64 t376, .int .u64 t377, .int .u64 0, .int .u64 0]) ?_ 7 _ rfl; (with_reducible repeat (first | refine blk_drewN ?_ _ | refine blk_drew ?_ | refine blk_alloc ?_ _)); refine blk_put (cs := #[.int .u32 t371, .int .u32 t372, .int .u64 t373, .int .u64 t374, .int .u64 t375, .int .u64 t376, .int .u64 0, .int .u64 0, .int .u64 0]) ?_ 6 _ rfl; (with_reducible repeat (first | refine blk_drewN ?_ _ | refine blk_drew ?_ | refine blk_alloc ?_ _)); refine blk_put (cs := #[.int .u32 t371, .int .u32 t372, .int .u64 t373, .int .u64 t374, .int .u64 t375, .int .u64 0, .int .u64 0, .int .u64 0, .int .u64 0]) ?_ 5 _ rfl; (with_reducible repeat (first | refine blk_drewN ?_ _ | refine blk_drew ?_ | refine blk_alloc ?_ _)); refine blk_put (cs := #[.int .u32 t371, .int .u32 t372, .int .u64 t373, .int .u64 t374, .int .u64 0, .int .u64 0, .int .u64 0, .int .u64 0, .int .u64 0]) ?_ 4 _ rfl; (with_reducible repeat (first | refine blk_drewN ?_ _ | refine blk_drew ?_ | refine blk_alloc ?_ _)); refine blk_put (cs := #[.int .u32 t371, .int .u32 t372, .int .u64 t373, .int .u64 0, .int .u64 0, .int .u64 0, .int .u64 0, .int .u64 0, .int .u64 0]) ?_ 3 _ rfl; (with_reducible repeat (first | refine blk_drewN ?_ _ | refine blk_drew ?_ | refine blk_alloc ?_ _)); refine blk_put (cs := #[.int .u32 t371, .int .u32 t372, .int .u64 0, .int .u64 0, .int .u64 0, .int .u64 0, .int .u64 0, .int .u64 0, .int .u64 0]) ?_ 2 _ rfl; (with_reducible repeat (first | refine blk_drewN ?_ _ | refine blk_drew ?_ | refine blk_alloc ?_ _)); refine blk_put (cs := #[.int .u32 t371, .int .u32 0, .int .u64 0, .int .u64 0, .int .u64 0, .int .u64 0, .int .u64 0, .int .u64 0, .int .u64 0]) ?_ 1 _ rfl; (with_reducible repeat (first | refine blk_drewN ?_ _ | refine blk_drew ?_ | refine blk_alloc ?_ _)); refine blk_put (cs := #[.int .u32 0, .int .u32 0, .int .u64 0, .int .u64 0, .int .u64 0, .int .u64 0, .int .u64 0, .int .u64 0, .int .u64 0]) ?_ 0 _ rfl; (with_reducible repeat (first | refine blk_drewN ?_ _ | refine blk_drew ?_ | refine blk_alloc ?_ _)); exact BK381.out⟩, ⟨by repeat (first | (with_reducible first | exact HB.out | apply below_alloc | apply pw_below_drewN | apply below_drew1 | refine below_set ?_ GE366.out | refine below_set ?_ GE381.out) | exact HB.out)⟩⟩
 case rest =>
  clear HC6
  try clear c1
  try clear c2
  try clear p2
  try clear c8
  try clear c9
  try clear c10
  try clear c14
  try clear c15
  try clear c16
  try clear c16b0
  try clear c17
  try clear c20
  try clear hcz15_0
  try clear hcz15_1
  try clear hcz15_2
  try clear hcz15_3
  try clear hcz15_4
  try clear hcz15_5
  try clear hcz15_6
  try clear hcz15_7
  try clear hcz15_8
  try clear hcz18_0
  try clear hcz18_1
  try clear hcz18_2
  try clear hcz18_3
  try clear hcz18_4
  try clear hcz18_5
  try clear hcz18_6
  try clear hcz18_7
  try clear hcz18_8
  try clear hcz19_0
  try clear hcz19_1
  try clear hcz19_2
  try clear hcz19_3
  try clear hcz19_4
  try clear hcz19_5
  try clear hcz19_6
  try clear hcz19_7
  try clear hcz19_8
  try clear hcz21_0
  try clear hcz21_1
  try clear hcz21_2
  try clear hcz21_3
  try clear hcz21_4
  try clear hcz21_5
  try clear hcz21_6
  try clear hcz21_7
  try clear hcz21_8
  try clear hcz22_0
  try clear hcz22_1
  try clear hcz22_2
  try clear hcz22_3
  try clear hcz22_4
  try clear hcz22_5
  try clear hcz22_6
  try clear hcz22_7
  try clear hcz22_8
  try clear hcz9_0
  try clear hcz9_1
  try clear hcz9_2
  try clear hcz9_3
  try clear hcz9_4
  try clear hcz9_5
  try clear hcz9_6
  try clear hcz9_7
  try clear hcz9_8
  try clear hfz15_0
  try clear hfz15_1
  try clear hfz15_2
  try clear hfz15_3
  try clear hfz15_4
  try clear hfz15_5
  try clear hfz15_6
  try clear hfz15_7
  try clear hfz15_8
  try clear hfz18_0
  try clear hfz18_1
  try clear hfz18_2
  try clear hfz18_3
  try clear hfz18_4
  try clear hfz18_5
  try clear hfz18_6
  try clear hfz18_7
  try clear hfz18_8
  try clear hfz19_0
  try clear hfz19_1
  try clear hfz19_2
  try clear hfz19_3
  try clear hfz19_4
  try clear hfz19_5
  try clear hfz19_6
  try clear hfz19_7
  try clear hfz19_8
  try clear hfz21_0
  try clear hfz21_1
  try clear hfz21_2
  try clear hfz21_3
  try clear hfz21_4
  try clear hfz21_5
  try clear hfz21_6
  try clear hfz21_7
  try clear hfz21_8
  try clear hfz22_0
  try clear hfz22_1
  try clear hfz22_2
  try clear hfz22_3
  try clear hfz22_4
  try clear hfz22_5
  try clear hfz22_6
  try clear hfz22_7
  try clear hfz22_8
  try clear hfz9_0
  try clear hfz9_1
  try clear hfz9_2
  try clear hfz9_3
  try clear hfz9_4
  try clear hfz9_5
  try clear hfz9_6
  try clear hfz9_7
  try clear hfz9_8
  obtain ⟨kq, x23_5, rfl, HA, HJ5, BK366, BK381, HB⟩ := hcut
  cases kq with
  | zero => exact absurd HA.out (by simp [fairleadlaw04_DataBack.j0])
  | succ kj5 =>
   have H := HA.out
   clear HA
   simp only [fairleadlaw04_DataBack.j0] at H
   by_cases c23 : x23_5 = true
   ·subst c23
    have H1 : (some false) = some r := by rw [if_pos rfl] at H; exact H
    clear H
    have H := H1
    clear H1
    obtain rfl := Option.some.inj H
    go_wp2
    go_ret
    exact ⟨by first | rfl | (simp [errW_none, errW_some] <;> rfl) | (simp [*, errW_none, errW_some] <;> rfl), by repeat (first | (with_reducible first | exact HB.out | apply below_alloc | apply pw_below_drewN | apply below_drew1 | refine below_set ?_ GE366.out | refine below_set ?_ GE381.out) | exact HB.out)⟩
   ·replace c23 := Bool.eq_false_iff.mpr c23
    subst c23
    have H1 : ((data_Of.f kj5 l1).bind fun bt382 => (if bt382.2.2.2.2.2.2.2.2.2 = 0 then ((data_Bytes.f kj5 bt382.1 bt382.2.1 bt382.2.2.1 bt382.2.2.2.1 bt382.2.2.2.2.1 bt382.2.2.2.2.2.1 bt382.2.2.2.2.2.2.1 bt382.2.2.2.2.2.2.2.1 bt382.2.2.2.2.2.2.2.2.1).bind fun t393 => (if (strOfNums t393).toList = (strOfNums l1).toList then (if t367 = true then (some ((bt382.2.2.2.2.2.2.2.2.2 == 0) == ((l1.length : Int) == 64))) else (some false)) else (some false))) else (if t367 = true then (some ((bt382.2.2.2.2.2.2.2.2.2 == 0) == ((l1.length : Int) == 64))) else (some false)))) = some r := by rw [if_neg (show ¬ (false = true) by decide)] at H; exact H
    clear H
    have H := H1
    clear H1
    replace H := Option.bind_eq_some_iff.mp H
    obtain ⟨⟨t382, t383, t384, t385, t386, t387, t388, t389, t390, t391⟩, A240, H⟩ := H
    replace H : (if t391 = 0 then ((data_Bytes.f kj5 t382 t383 t384 t385 t386 t387 t388 t389 t390).bind fun t393 => (if (strOfNums t393).toList = (strOfNums l1).toList then (if t367 = true then (some ((t391 == 0) == ((l1.length : Int) == 64))) else (some false)) else (some false))) else (if t367 = true then (some ((t391 == 0) == ((l1.length : Int) == 64))) else (some false))) = some r := H
    have A24 := Aside0.mk A240
    clear A240
    by_cases c25 : t391 = 0
    ·rw [if_pos c25] at H
     have c25b0 : (t391 == 0) = true := beq_iff_eq.mpr c25
     have c25b1 : (t391 != 0) = false := bne_eq_false_iff_eq.mpr c25
     clear c25
     replace H := Option.bind_eq_some_iff.mp H
     obtain ⟨t393, A260, H⟩ := H
     replace H : (if (strOfNums t393).toList = (strOfNums l1).toList then (if t367 = true then (some ((t391 == 0) == ((l1.length : Int) == 64))) else (some false)) else (some false)) = some r := H
     have A26 := Aside0.mk A260
     clear A260
     by_cases c27 : (strOfNums t393).toList = (strOfNums l1).toList
     ·rw [if_pos c27] at H
      have c27b0 : ((strOfNums t393).toList == (strOfNums l1).toList) = true := beq_iff_eq.mpr c27
      have c27b1 : ((strOfNums t393).toList != (strOfNums l1).toList) = false := bne_eq_false_iff_eq.mpr c27
      clear c27
      by_cases c28 : t367 = true
      ·subst c28
       have H1 : (some ((t391 == 0) == ((l1.length : Int) == 64))) = some r := by rw [if_pos rfl] at H; exact H
       clear H
       have H := H1
       clear H1
       obtain rfl := Option.some.inj H
       try go_wp2_with (first | ((with_reducible refine gate_callee (f := 15) rfl ?_); refine goesL_ (some 26) rfl rfl Try.func15 (by kernel_rfl) rfl #[.slice A1 l1.length c1] rfl (by (try simp only [List.map_toArray, List.map_cons, List.map_nil]); first | done | rfl | (simp only [List.length_drop, List.length_take]; rfl)) ?_; (with_reducible refine (data_Of.calls kj5 _ _ l1 t382 t383 t384 t385 t386 t387 t388 t389 t390 t391 _ ?side1 ?side2 A24.out).mono ?_); (case side1 => repeat (first | exact (Kd.C_below HR1.out HB.out) | (with_reducible refine Kd.C_alloc ?_ _) | (with_reducible refine Kd.C_drewN ?_ _) | (with_reducible refine Kd.C_drew ?_))); (case side2 => exact HC1.out); rintro e w29 ⟨rfl, hb⟩; refine ⟨_, rfl, ?_⟩; have n0_ := Aside0.mk (blk_below (g := gb366) (o := .cells #[.int .u32 a0_0, .int .u32 a0_1, .int .u64 a0_2, .int .u64 a0_3, .int .u64 a0_4, .int .u64 a0_5, .int .u64 a0_6, .int .u64 a0_7, .int .u64 a0_8] 26 (0, 0)) (by (with_reducible repeat (first | refine blk_drewN ?_ _ | refine blk_drew ?_ | refine blk_alloc ?_ _)); exact BK366.out) hb); have n1_ := Aside0.mk (blk_below (g := gb381) (o := .cells #[.int .u32 t371, .int .u32 t372, .int .u64 t373, .int .u64 t374, .int .u64 t375, .int .u64 t376, .int .u64 t377, .int .u64 t378, .int .u64 t379] 26 (0, 0)) (by (with_reducible repeat (first | refine blk_drewN ?_ _ | refine blk_drew ?_ | refine blk_alloc ?_ _)); exact BK381.out) hb); have n2_ := Aside0.mk (below_step (by repeat (first | (with_reducible first | exact HB.out | apply below_alloc | apply pw_below_drewN | apply below_drew1 | refine below_set ?_ GE366.out | refine below_set ?_ GE381.out) | exact HB.out)) hb); clear BK366; clear BK381; clear HB; have BK366 := n0_; have BK381 := n1_; have HB := n2_; clear n0_ n1_ n2_; (try clear hb); (try clear hb2); (try clear hk); (try clear hi)) | ((with_reducible refine gate_dst (N := 8) rfl ?_); (try (refine gate_guard (by rfl) ?_; dsimp only)); refine box_event ?hg (N := 8) ?hd (cs := #[.int .u32 0, .int .u32 0, .int .u64 0, .int .u64 0, .int .u64 0, .int .u64 0, .int .u64 0, .int .u64 0, .int .u64 0]) (t := 26) ?hr ?_; (case hd => rfl); (case hg => rfl); (case hr => first | (go_simp; done) | (go_simp; rfl)); intro gb392 hg w30 hbox hb; have n0_ := Aside0.mk (blk_below (g := gb366) (o := .cells #[.int .u32 a0_0, .int .u32 a0_1, .int .u64 a0_2, .int .u64 a0_3, .int .u64 a0_4, .int .u64 a0_5, .int .u64 a0_6, .int .u64 a0_7, .int .u64 a0_8] 26 (0, 0)) (by (with_reducible repeat (first | refine blk_drewN ?_ _ | refine blk_drew ?_ | refine blk_alloc ?_ _)); exact BK366.out) hb); have n1_ := Aside0.mk (blk_below (g := gb381) (o := .cells #[.int .u32 t371, .int .u32 t372, .int .u64 t373, .int .u64 t374, .int .u64 t375, .int .u64 t376, .int .u64 t377, .int .u64 t378, .int .u64 t379] 26 (0, 0)) (by (with_reducible repeat (first | refine blk_drewN ?_ _ | refine blk_drew ?_ | refine blk_alloc ?_ _)); exact BK381.out) hb); have n2_ := Aside0.mk (below_step (by repeat (first | (with_reducible first | exact HB.out | apply below_alloc | apply pw_below_drewN | apply below_drew1 | refine below_set ?_ GE366.out | refine below_set ?_ GE381.out) | exact HB.out)) hb); have n3_ := Aside0.mk (hbox); have n4_ := Aside0.mk ((by rw [hg]; exact (below_size (by repeat (first | (with_reducible first | exact HB.out | apply below_alloc | apply pw_below_drewN | apply below_drew1 | refine below_set ?_ GE366.out | refine below_set ?_ GE381.out) | exact HB.out))) : w.heap.size ≤ gb392)); have n5_ := Aside0.mk ((by rw [hg]; exact (below_size (by repeat (first | (with_reducible first | exact HB.out | apply below_alloc | apply pw_below_drewN | apply below_drew1 | refine below_set ?_ GE366.out | refine below_set ?_ GE381.out) | exact HB.out))) : w.heap.size ≤ gb392)); have n6_ := Aside0.mk ((by rw [hg]; exact Nat.ne_of_lt (blk_lt (g := gb366) (o := .cells #[.int .u32 a0_0, .int .u32 a0_1, .int .u64 a0_2, .int .u64 a0_3, .int .u64 a0_4, .int .u64 a0_5, .int .u64 a0_6, .int .u64 a0_7, .int .u64 a0_8] 26 (0, 0)) (by (with_reducible repeat (first | refine blk_drewN ?_ _ | refine blk_drew ?_ | refine blk_alloc ?_ _)); exact BK366.out)) : gb366 ≠ gb392)); have n7_ := Aside0.mk ((by rw [hg]; exact Nat.ne_of_gt (blk_lt (g := gb366) (o := .cells #[.int .u32 a0_0, .int .u32 a0_1, .int .u64 a0_2, .int .u64 a0_3, .int .u64 a0_4, .int .u64 a0_5, .int .u64 a0_6, .int .u64 a0_7, .int .u64 a0_8] 26 (0, 0)) (by (with_reducible repeat (first | refine blk_drewN ?_ _ | refine blk_drew ?_ | refine blk_alloc ?_ _)); exact BK366.out)) : gb392 ≠ gb366)); have n8_ := Aside0.mk ((by rw [hg]; exact Nat.ne_of_lt (blk_lt (g := gb381) (o := .cells #[.int .u32 t371, .int .u32 t372, .int .u64 t373, .int .u64 t374, .int .u64 t375, .int .u64 t376, .int .u64 t377, .int .u64 t378, .int .u64 t379] 26 (0, 0)) (by (with_reducible repeat (first | refine blk_drewN ?_ _ | refine blk_drew ?_ | refine blk_alloc ?_ _)); exact BK381.out)) : gb381 ≠ gb392)); have n9_ := Aside0.mk ((by rw [hg]; exact Nat.ne_of_gt (blk_lt (g := gb381) (o := .cells #[.int .u32 t371, .int .u32 t372, .int .u64 t373, .int .u64 t374, .int .u64 t375, .int .u64 t376, .int .u64 t377, .int .u64 t378, .int .u64 t379] 26 (0, 0)) (by (with_reducible repeat (first | refine blk_drewN ?_ _ | refine blk_drew ?_ | refine blk_alloc ?_ _)); exact BK381.out)) : gb392 ≠ gb381)); clear BK366; clear BK381; clear HB; have BK366 := n0_; have BK381 := n1_; have HB := n2_; have BK392 := n3_; have GW392 := n4_; have GE392 := n5_; have NB366_392 := n6_; have NB392_366 := n7_; have NB381_392 := n8_; have NB392_381 := n9_; clear n0_ n1_ n2_ n3_ n4_ n5_ n6_ n7_ n8_ n9_; clear hb hbox hg; have hnb31 := NB392_366.out; have hnc31 := NB366_392.out; have hnb32 := NB392_381.out; have hnc32 := NB381_392.out; have hcz33_0 : w30.cell? ⟨gb392, 0, none⟩ = some (.int .u32 0) := (blk_cell BK392.out 0).trans rfl; have hcz33_1 : w30.cell? ⟨gb392, 1, none⟩ = some (.int .u32 0) := (blk_cell BK392.out 1).trans rfl; have hcz33_2 : w30.cell? ⟨gb392, 2, none⟩ = some (.int .u64 0) := (blk_cell BK392.out 2).trans rfl; have hcz33_3 : w30.cell? ⟨gb392, 3, none⟩ = some (.int .u64 0) := (blk_cell BK392.out 3).trans rfl; have hcz33_4 : w30.cell? ⟨gb392, 4, none⟩ = some (.int .u64 0) := (blk_cell BK392.out 4).trans rfl; have hcz33_5 : w30.cell? ⟨gb392, 5, none⟩ = some (.int .u64 0) := (blk_cell BK392.out 5).trans rfl; have hcz33_6 : w30.cell? ⟨gb392, 6, none⟩ = some (.int .u64 0) := (blk_cell BK392.out 6).trans rfl; have hcz33_7 : w30.cell? ⟨gb392, 7, none⟩ = some (.int .u64 0) := (blk_cell BK392.out 7).trans rfl; have hcz33_8 : w30.cell? ⟨gb392, 8, none⟩ = some (.int .u64 0) := (blk_cell BK392.out 8).trans rfl; have hfz33_0 := blk_frozen BK392.out 0; have hfz33_1 := blk_frozen BK392.out 1; have hfz33_2 := blk_frozen BK392.out 2; have hfz33_3 := blk_frozen BK392.out 3; have hfz33_4 := blk_frozen BK392.out 4; have hfz33_5 := blk_frozen BK392.out 5; have hfz33_6 := blk_frozen BK392.out 6; have hfz33_7 := blk_frozen BK392.out 7; have hfz33_8 := blk_frozen BK392.out 8))
       have n0_ : Aside0 ((((((((((w30.setCell ⟨gb392, 0, none⟩ (.int .u32 t382)).setCell ⟨gb392, 1, none⟩ (.int .u32 t383)).setCell ⟨gb392, 2, none⟩ (.int .u64 t384)).setCell ⟨gb392, 3, none⟩ (.int .u64 t385)).setCell ⟨gb392, 4, none⟩ (.int .u64 t386)).setCell ⟨gb392, 5, none⟩ (.int .u64 t387)).setCell ⟨gb392, 6, none⟩ (.int .u64 t388)).setCell ⟨gb392, 7, none⟩ (.int .u64 t389)).setCell ⟨gb392, 8, none⟩ (.int .u64 t390)).heap[gb366]? = some (.cells #[.int .u32 a0_0, .int .u32 a0_1, .int .u64 a0_2, .int .u64 a0_3, .int .u64 a0_4, .int .u64 a0_5, .int .u64 a0_6, .int .u64 a0_7, .int .u64 a0_8] 26 (0, 0))) := ⟨by (with_reducible repeat (first | refine blk_drewN ?_ _ | refine blk_drew ?_ | refine blk_alloc ?_ _)); refine blk_far ?_ NB366_392.out _; (with_reducible repeat (first | refine blk_drewN ?_ _ | refine blk_drew ?_ | refine blk_alloc ?_ _)); refine blk_far ?_ NB366_392.out _; (with_reducible repeat (first | refine blk_drewN ?_ _ | refine blk_drew ?_ | refine blk_alloc ?_ _)); refine blk_far ?_ NB366_392.out _; (with_reducible repeat (first | refine blk_drewN ?_ _ | refine blk_drew ?_ | refine blk_alloc ?_ _)); refine blk_far ?_ NB366_392.out _; (with_reducible repeat (first | refine blk_drewN ?_ _ | refine blk_drew ?_ | refine blk_alloc ?_ _)); refine blk_far ?_ NB366_392.out _; (with_reducible repeat (first | refine blk_drewN ?_ _ | refine blk_drew ?_ | refine blk_alloc ?_ _)); refine blk_far ?_ NB366_392.out _; (with_reducible repeat (first | refine blk_drewN ?_ _ | refine blk_drew ?_ | refine blk_alloc ?_ _)); refine blk_far ?_ NB366_392.out _; (with_reducible repeat (first | refine blk_drewN ?_ _ | refine blk_drew ?_ | refine blk_alloc ?_ _)); refine blk_far ?_ NB366_392.out _; (with_reducible repeat (first | refine blk_drewN ?_ _ | refine blk_drew ?_ | refine blk_alloc ?_ _)); refine blk_far ?_ NB366_392.out _; (with_reducible repeat (first | refine blk_drewN ?_ _ | refine blk_drew ?_ | refine blk_alloc ?_ _)); exact BK366.out⟩
       have n1_ : Aside0 ((((((((((w30.setCell ⟨gb392, 0, none⟩ (.int .u32 t382)).setCell ⟨gb392, 1, none⟩ (.int .u32 t383)).setCell ⟨gb392, 2, none⟩ (.int .u64 t384)).setCell ⟨gb392, 3, none⟩ (.int .u64 t385)).setCell ⟨gb392, 4, none⟩ (.int .u64 t386)).setCell ⟨gb392, 5, none⟩ (.int .u64 t387)).setCell ⟨gb392, 6, none⟩ (.int .u64 t388)).setCell ⟨gb392, 7, none⟩ (.int .u64 t389)).setCell ⟨gb392, 8, none⟩ (.int .u64 t390)).heap[gb381]? = some (.cells #[.int .u32 t371, .int .u32 t372, .int .u64 t373, .int .u64 t374, .int .u64 t375, .int .u64 t376, .int .u64 t377, .int .u64 t378, .int .u64 t379] 26 (0, 0))) := ⟨by (with_reducible repeat (first | refine blk_drewN ?_ _ | refine blk_drew ?_ | refine blk_alloc ?_ _)); refine blk_far ?_ NB381_392.out _; (with_reducible repeat (first | refine blk_drewN ?_ _ | refine blk_drew ?_ | refine blk_alloc ?_ _)); refine blk_far ?_ NB381_392.out _; (with_reducible repeat (first | refine blk_drewN ?_ _ | refine blk_drew ?_ | refine blk_alloc ?_ _)); refine blk_far ?_ NB381_392.out _; (with_reducible repeat (first | refine blk_drewN ?_ _ | refine blk_drew ?_ | refine blk_alloc ?_ _)); refine blk_far ?_ NB381_392.out _; (with_reducible repeat (first | refine blk_drewN ?_ _ | refine blk_drew ?_ | refine blk_alloc ?_ _)); refine blk_far ?_ NB381_392.out _; (with_reducible repeat (first | refine blk_drewN ?_ _ | refine blk_drew ?_ | refine blk_alloc ?_ _)); refine blk_far ?_ NB381_392.out _; (with_reducible repeat (first | refine blk_drewN ?_ _ | refine blk_drew ?_ | refine blk_alloc ?_ _)); refine blk_far ?_ NB381_392.out _; (with_reducible repeat (first | refine blk_drewN ?_ _ | refine blk_drew ?_ | refine blk_alloc ?_ _)); refine blk_far ?_ NB381_392.out _; (with_reducible repeat (first | refine blk_drewN ?_ _ | refine blk_drew ?_ | refine blk_alloc ?_ _)); refine blk_far ?_ NB381_392.out _; (with_reducible repeat (first | refine blk_drewN ?_ _ | refine blk_drew ?_ | refine blk_alloc ?_ _)); exact BK381.out⟩
       have n2_ : Aside0 ((((((((((w30.setCell ⟨gb392, 0, none⟩ (.int .u32 t382)).setCell ⟨gb392, 1, none⟩ (.int .u32 t383)).setCell ⟨gb392, 2, none⟩ (.int .u64 t384)).setCell ⟨gb392, 3, none⟩ (.int .u64 t385)).setCell ⟨gb392, 4, none⟩ (.int .u64 t386)).setCell ⟨gb392, 5, none⟩ (.int .u64 t387)).setCell ⟨gb392, 6, none⟩ (.int .u64 t388)).setCell ⟨gb392, 7, none⟩ (.int .u64 t389)).setCell ⟨gb392, 8, none⟩ (.int .u64 t390)).heap[gb392]? = some (.cells #[.int .u32 t382, .int .u32 t383, .int .u64 t384, .int .u64 t385, .int .u64 t386, .int .u64 t387, .int .u64 t388, .int .u64 t389, .int .u64 t390] 26 (0, 0))) := ⟨by (with_reducible repeat (first | refine blk_drewN ?_ _ | refine blk_drew ?_ | refine blk_alloc ?_ _)); refine blk_put (cs := #[.int .u32 t382, .int .u32 t383, .int .u64 t384, .int .u64 t385, .int .u64 t386, .int .u64 t387, .int .u64 t388, .int .u64 t389, .int .u64 0]) ?_ 8 _ rfl; (with_reducible repeat (first | refine blk_drewN ?_ _ | refine blk_drew ?_ | refine blk_alloc ?_ _)); refine blk_put (cs := #[.int .u32 t382, .int .u32 t383, .int .u64 t384, .int .u64 t385, .int .u64 t386, .int .u64 t387, .int .u64 t388, .int .u64 0, .int .u64 0]) ?_ 7 _ rfl; (with_reducible repeat (first | refine blk_drewN ?_ _ | refine blk_drew ?_ | refine blk_alloc ?_ _)); refine blk_put (cs := #[.int .u32 t382, .int .u32 t383, .int .u64 t384, .int .u64 t385, .int .u64 t386, .int .u64 t387, .int .u64 0, .int .u64 0, .int .u64 0]) ?_ 6 _ rfl; (with_reducible repeat (first | refine blk_drewN ?_ _ | refine blk_drew ?_ | refine blk_alloc ?_ _)); refine blk_put (cs := #[.int .u32 t382, .int .u32 t383, .int .u64 t384, .int .u64 t385, .int .u64 t386, .int .u64 0, .int .u64 0, .int .u64 0, .int .u64 0]) ?_ 5 _ rfl; (with_reducible repeat (first | refine blk_drewN ?_ _ | refine blk_drew ?_ | refine blk_alloc ?_ _)); refine blk_put (cs := #[.int .u32 t382, .int .u32 t383, .int .u64 t384, .int .u64 t385, .int .u64 0, .int .u64 0, .int .u64 0, .int .u64 0, .int .u64 0]) ?_ 4 _ rfl; (with_reducible repeat (first | refine blk_drewN ?_ _ | refine blk_drew ?_ | refine blk_alloc ?_ _)); refine blk_put (cs := #[.int .u32 t382, .int .u32 t383, .int .u64 t384, .int .u64 0, .int .u64 0, .int .u64 0, .int .u64 0, .int .u64 0, .int .u64 0]) ?_ 3 _ rfl; (with_reducible repeat (first | refine blk_drewN ?_ _ | refine blk_drew ?_ | refine blk_alloc ?_ _)); refine blk_put (cs := #[.int .u32 t382, .int .u32 t383, .int .u64 0, .int .u64 0, .int .u64 0, .int .u64 0, .int .u64 0, .int .u64 0, .int .u64 0]) ?_ 2 _ rfl; (with_reducible repeat (first | refine blk_drewN ?_ _ | refine blk_drew ?_ | refine blk_alloc ?_ _)); refine blk_put (cs := #[.int .u32 t382, .int .u32 0, .int .u64 0, .int .u64 0, .int .u64 0, .int .u64 0, .int .u64 0, .int .u64 0, .int .u64 0]) ?_ 1 _ rfl; (with_reducible repeat (first | refine blk_drewN ?_ _ | refine blk_drew ?_ | refine blk_alloc ?_ _)); refine blk_put (cs := #[.int .u32 0, .int .u32 0, .int .u64 0, .int .u64 0, .int .u64 0, .int .u64 0, .int .u64 0, .int .u64 0, .int .u64 0]) ?_ 0 _ rfl; (with_reducible repeat (first | refine blk_drewN ?_ _ | refine blk_drew ?_ | refine blk_alloc ?_ _)); exact BK392.out⟩
       have n3_ : Aside0 (Below w.heap.size w (((((((((w30.setCell ⟨gb392, 0, none⟩ (.int .u32 t382)).setCell ⟨gb392, 1, none⟩ (.int .u32 t383)).setCell ⟨gb392, 2, none⟩ (.int .u64 t384)).setCell ⟨gb392, 3, none⟩ (.int .u64 t385)).setCell ⟨gb392, 4, none⟩ (.int .u64 t386)).setCell ⟨gb392, 5, none⟩ (.int .u64 t387)).setCell ⟨gb392, 6, none⟩ (.int .u64 t388)).setCell ⟨gb392, 7, none⟩ (.int .u64 t389)).setCell ⟨gb392, 8, none⟩ (.int .u64 t390))) := ⟨by repeat (first | (with_reducible first | exact HB.out | apply below_alloc | apply pw_below_drewN | apply below_drew1 | refine below_set ?_ GE366.out | refine below_set ?_ GE381.out | refine below_set ?_ GE392.out) | exact HB.out)⟩
       (try clear BK366)
       (try clear BK381)
       (try clear BK392)
       (try clear HB)
       generalize (((((((((w30.setCell ⟨gb392, 0, none⟩ (.int .u32 t382)).setCell ⟨gb392, 1, none⟩ (.int .u32 t383)).setCell ⟨gb392, 2, none⟩ (.int .u64 t384)).setCell ⟨gb392, 3, none⟩ (.int .u64 t385)).setCell ⟨gb392, 4, none⟩ (.int .u64 t386)).setCell ⟨gb392, 5, none⟩ (.int .u64 t387)).setCell ⟨gb392, 6, none⟩ (.int .u64 t388)).setCell ⟨gb392, 7, none⟩ (.int .u64 t389)).setCell ⟨gb392, 8, none⟩ (.int .u64 t390)) = w34 at n0_ n1_ n2_ n3_ ⊢
       have BK366 := n0_
       have BK381 := n1_
       have BK392 := n2_
       have HB := n3_
       clear n0_ n1_ n2_ n3_
       have n0_ := Aside0.mk (blk_drew BK366.out)
       have n1_ := Aside0.mk (blk_drew BK381.out)
       have n2_ := Aside0.mk (blk_drew BK392.out)
       have n3_ := Aside0.mk (below_drew1 HB.out)
       clear BK366
       clear BK381
       clear BK392
       clear HB
       have BK366 := n0_
       have BK381 := n1_
       have BK392 := n2_
       have HB := n3_
       clear n0_ n1_ n2_ n3_
       refine start_ (n := 10) (S := fun w' => w'.cell? ⟨gb392, 0, none⟩ = some (.int .u32 t382) ∧ w'.cell? ⟨gb392, 1, none⟩ = some (.int .u32 t383) ∧ w'.cell? ⟨gb392, 2, none⟩ = some (.int .u64 t384) ∧ w'.cell? ⟨gb392, 3, none⟩ = some (.int .u64 t385) ∧ w'.cell? ⟨gb392, 4, none⟩ = some (.int .u64 t386) ∧ w'.cell? ⟨gb392, 5, none⟩ = some (.int .u64 t387) ∧ w'.cell? ⟨gb392, 6, none⟩ = some (.int .u64 t388) ∧ w'.cell? ⟨gb392, 7, none⟩ = some (.int .u64 t389) ∧ w'.cell? ⟨gb392, 8, none⟩ = some (.int .u64 t390) ∧ Below w.heap.size w w') (ds := []) #[false, false, false, false, false, false, false, false, false, false] (by kernel_rfl) rfl rfl ⟨(blk_cell BK392.out 0).trans rfl, (blk_cell BK392.out 1).trans rfl, (blk_cell BK392.out 2).trans rfl, (blk_cell BK392.out 3).trans rfl, (blk_cell BK392.out 4).trans rfl, (blk_cell BK392.out 5).trans rfl, (blk_cell BK392.out 6).trans rfl, (blk_cell BK392.out 7).trans rfl, (blk_cell BK392.out 8).trans rfl, (by exact HB.out)⟩ (fun hHeld => ?_); refine with_tabW fairleadlaw04_DataBack.tab6 fairleadlaw04_DataBack.bits6 (fun HT_ HW_ => ?_)
       generalize w34.drew = w35 at BK366 BK381 BK392 HB hHeld ⊢
       refine pure_ (i := 0) (N := some 29) (v := ?_) (a' := ?_) #[true, false, false, false, false, false, false, false, false, false] rfl rfl (any_of HT_.out (by kernel_rfl)) (fun _ _ _ h => h) (Or.inl ⟨by rfl, ?_⟩) ?_ ?_
       rotate_left
       ·intro w'
        go_simp
        with_reducible rfl
       rotate_left
       ·simp only [Act.put, List.setIfInBounds_toArray, List.set_cons_zero, List.set_cons_succ, i64_w, i32_w]
        rfl
       refine pure_ (i := 1) (N := some 30) (v := ?_) (a' := ?_) #[true, true, false, false, false, false, false, false, false, false] rfl rfl (any_of HT_.out (by kernel_rfl)) (fun _ _ _ h => h) (Or.inl ⟨by rfl, ?_⟩) ?_ ?_
       rotate_left
       ·intro w'
        go_simp
        with_reducible rfl
       rotate_left
       ·simp only [Act.put, List.setIfInBounds_toArray, List.set_cons_zero, List.set_cons_succ, i64_w, i32_w]
        rfl
       refine pure_ (i := 2) (N := some 31) (v := ?_) (a' := ?_) #[true, true, true, false, false, false, false, false, false, false] rfl rfl (any_of HT_.out (by kernel_rfl)) (fun _ _ _ h => h) (Or.inl ⟨by rfl, ?_⟩) ?_ ?_
       rotate_left
       ·intro w'
        go_simp
        with_reducible rfl
       rotate_left
       ·simp only [Act.put, List.setIfInBounds_toArray, List.set_cons_zero, List.set_cons_succ, i64_w, i32_w]
        rfl
       refine pure_ (i := 6) (N := some 35) (v := ?_) (a' := ?_) #[true, true, true, false, false, false, true, false, false, false] rfl rfl (any_of HT_.out (by kernel_rfl)) (fun _ _ _ h => h) (Or.inl ⟨by rfl, ?_⟩) ?_ ?_
       rotate_left
       ·intro w'
        go_simp
        with_reducible rfl
       rotate_left
       ·simp only [Act.put, List.setIfInBounds_toArray, List.set_cons_zero, List.set_cons_succ, i64_w, i32_w]
        rfl
       refine take_ (i := 7) (N := some 36) (v := ?_) (a' := ?_) #[true, true, true, false, false, false, true, true, false, false] rfl rfl (take_ofW HT_.out HW_.out (by kernel_rfl)) (fun _ _ _ h => h) (Or.inl ⟨by rfl, ?_⟩) hHeld ?_ ?_
       rotate_left
       ·rintro w' ⟨s0, s1, s2, s3, s4, s5, s6, s7, s8, hb_⟩
        have hcv_ := Kd.C_string (P := Try.prog) (A := A1) (c := c1) Try.underlying28 Try.underlying5 Try.underlying9 (Kd.C_below HR1.out hb_)
        go_simp
        with_reducible rfl
       rotate_left
       ·simp only [Act.put, List.setIfInBounds_toArray, List.set_cons_zero, List.set_cons_succ, i64_w, i32_w]
        rfl
       refine take_ (i := 3) (N := some 32) (v := ?_) (a' := ?_) #[true, true, true, true, false, false, true, true, false, false] rfl rfl (take_ofW HT_.out HW_.out (by kernel_rfl)) (fun _ _ _ h => h) (Or.inl ⟨by rfl, ?_⟩) hHeld ?_ ?_
       rotate_left
       ·rintro w' ⟨s0, s1, s2, s3, s4, s5, s6, s7, s8, sB_⟩
        go_simp
        with_reducible rfl
       rotate_left
       ·simp only [Act.put, List.setIfInBounds_toArray, List.set_cons_zero, List.set_cons_succ, i64_w, i32_w]
        rfl
       refine one_ (i := 4) (N := some 33) #[true, true, true, true, true, false, true, true, false, false] rfl rfl (one_of HT_.out (by kernel_rfl)) (by decide) (fun K hK => ?_)
       refine goes_ Try.func10 (by kernel_rfl) rfl #[.agg #[.int .u32 t382, .int .u32 t383, .int .u64 t384, .int .u64 t385, .int .u64 t386, .int .u64 t387, .int .u64 t388, .int .u64 t389, .int .u64 t390]] (by rfl) rfl rfl (by (try simp only [List.map_toArray, List.map_cons, List.map_nil]); first | done | rfl | (simp only [List.length_drop, List.length_take]; rfl)) ?_
       with_reducible refine (data_Bytes.calls kj5 t382 t383 t384 t385 t386 t387 t388 t389 t390 t393 _ A26.out).mono ?_
       rintro e w36 ⟨v394, rfl, ho0, hb⟩
       refine ⟨_, rfl, ?_⟩
       have n0_ := Aside0.mk (Kd.R_lower ho0 (below_size (by repeat (first | (with_reducible first | exact HB.out | apply below_alloc | apply pw_below_drewN | apply below_drew1 | refine below_set ?_ GE366.out | refine below_set ?_ GE381.out | refine below_set ?_ GE392.out) | exact HB.out))))
       have n1_ := Aside0.mk (blk_below (g := gb366) (o := .cells #[.int .u32 a0_0, .int .u32 a0_1, .int .u64 a0_2, .int .u64 a0_3, .int .u64 a0_4, .int .u64 a0_5, .int .u64 a0_6, .int .u64 a0_7, .int .u64 a0_8] 26 (0, 0)) (by (with_reducible repeat (first | refine blk_drewN ?_ _ | refine blk_drew ?_ | refine blk_alloc ?_ _)); exact BK366.out) hb)
       have n2_ := Aside0.mk (blk_below (g := gb381) (o := .cells #[.int .u32 t371, .int .u32 t372, .int .u64 t373, .int .u64 t374, .int .u64 t375, .int .u64 t376, .int .u64 t377, .int .u64 t378, .int .u64 t379] 26 (0, 0)) (by (with_reducible repeat (first | refine blk_drewN ?_ _ | refine blk_drew ?_ | refine blk_alloc ?_ _)); exact BK381.out) hb)
       have n3_ := Aside0.mk (blk_below (g := gb392) (o := .cells #[.int .u32 t382, .int .u32 t383, .int .u64 t384, .int .u64 t385, .int .u64 t386, .int .u64 t387, .int .u64 t388, .int .u64 t389, .int .u64 t390] 26 (0, 0)) (by (with_reducible repeat (first | refine blk_drewN ?_ _ | refine blk_drew ?_ | refine blk_alloc ?_ _)); exact BK392.out) hb)
       have n4_ := Aside0.mk (below_step (by repeat (first | (with_reducible first | exact HB.out | apply below_alloc | apply pw_below_drewN | apply below_drew1 | refine below_set ?_ GE366.out | refine below_set ?_ GE381.out | refine below_set ?_ GE392.out) | exact HB.out)) hb)
       clear BK366
       clear BK381
       clear BK392
       clear HB
       have HO395 := n0_
       have BK366 := n1_
       have BK381 := n2_
       have BK392 := n3_
       have HB := n4_
       clear n0_ n1_ n2_ n3_ n4_
       (try clear hb)
       (try clear hb2)
       (try clear hk)
       (try clear hi)
       (try clear ho0)
       have hcv38 := Kd.C_string (P := Try.prog) (A := A1) (c := c1) Try.underlying28 Try.underlying5 Try.underlying9 (Kd.C_below HR1.out HB.out)
       refine hK.out _ _ ⟨(blk_cell BK392.out 0).trans rfl, (blk_cell BK392.out 1).trans rfl, (blk_cell BK392.out 2).trans rfl, (blk_cell BK392.out 3).trans rfl, (blk_cell BK392.out 4).trans rfl, (blk_cell BK392.out 5).trans rfl, (blk_cell BK392.out 6).trans rfl, (blk_cell BK392.out 7).trans rfl, (blk_cell BK392.out 8).trans rfl, (by exact HB.out)⟩ (fun hHeld => ?_)
       clear hK K
       refine norm_ (a' := ?_) ?_ ?_
       rotate_left
       ·show Act.put _ (some 33) _ = _
        simp only [Act.put, List.setIfInBounds_toArray, List.set_cons_zero, List.set_cons_succ, i64_w, i32_w]
        rfl
       refine one_ (i := 5) (N := some 34) #[true, true, true, true, true, true, true, true, false, false] rfl rfl (one_of HT_.out (by kernel_rfl)) (by decide) (fun K hK => ?_)
       have hcv37 := own_string (P := Try.prog) Try.underlying28 Try.underlying5 Try.underlying9 (Kd.own_of_R HO395.out)
       refine value_ (w1 := ?_) (v := ?_) (by rfl) rfl ?_ ?_
       rotate_left 2
       ·go_simp
        constructor
        ·rfl
        ·rfl
       clear hcv37
       refine hK.out _ _ ⟨(blk_cell BK392.out 0).trans rfl, (blk_cell BK392.out 1).trans rfl, (blk_cell BK392.out 2).trans rfl, (blk_cell BK392.out 3).trans rfl, (blk_cell BK392.out 4).trans rfl, (blk_cell BK392.out 5).trans rfl, (blk_cell BK392.out 6).trans rfl, (blk_cell BK392.out 7).trans rfl, (blk_cell BK392.out 8).trans rfl, (by exact HB.out)⟩ (fun hHeld => ?_)
       clear hK K
       refine norm_ (a' := ?_) ?_ ?_
       rotate_left
       ·show Act.put _ (some 34) _ = _
        simp only [Act.put, List.setIfInBounds_toArray, List.set_cons_zero, List.set_cons_succ, i64_w, i32_w]
        rfl
       refine pure_ (i := 8) (N := some 37) (v := ?_) (a' := ?_) #[true, true, true, true, true, true, true, true, true, false] rfl rfl (any_of HT_.out (by kernel_rfl)) (fun _ _ _ h => h) (Or.inl ⟨by rfl, ?_⟩) ?_ ?_
       rotate_left
       ·intro w'
        go_simp
        with_reducible rfl
       rotate_left
       ·simp only [Act.put, List.setIfInBounds_toArray, List.set_cons_zero, List.set_cons_succ, i64_w, i32_w]
        rfl
       refine pure_ (i := 9) (N := some 38) (v := ?_) (a' := ?_) #[true, true, true, true, true, true, true, true, true, true] rfl rfl (any_of HT_.out (by kernel_rfl)) (fun _ _ _ h => h) (Or.inl ⟨by rfl, ?_⟩) ?_ ?_
       rotate_left
       ·intro w'
        go_simp
        with_reducible rfl
       rotate_left
       ·simp only [Act.put, List.setIfInBounds_toArray, List.set_cons_zero, List.set_cons_succ, i64_w, i32_w]
        rfl
       refine done_ (done_of HT_.out (by kernel_rfl)) ?_
       try go_wp2
       go_ret
       exact ⟨by first | rfl | (simp [errW_none, errW_some] <;> rfl) | (simp [*, errW_none, errW_some] <;> rfl), by repeat (first | (with_reducible first | exact HB.out | apply below_alloc | apply pw_below_drewN | apply below_drew1 | refine below_set ?_ GE366.out | refine below_set ?_ GE381.out | refine below_set ?_ GE392.out) | exact HB.out)⟩
      ·replace c28 := Bool.eq_false_iff.mpr c28
       subst c28
       have H1 : (some false) = some r := by rw [if_neg (show ¬ (false = true) by decide)] at H; exact H
       clear H
       have H := H1
       clear H1
       obtain rfl := Option.some.inj H
       try go_wp2_with (first | ((with_reducible refine gate_callee (f := 15) rfl ?_); refine goesL_ (some 26) rfl rfl Try.func15 (by kernel_rfl) rfl #[.slice A1 l1.length c1] rfl (by (try simp only [List.map_toArray, List.map_cons, List.map_nil]); first | done | rfl | (simp only [List.length_drop, List.length_take]; rfl)) ?_; (with_reducible refine (data_Of.calls kj5 _ _ l1 t382 t383 t384 t385 t386 t387 t388 t389 t390 t391 _ ?side1 ?side2 A24.out).mono ?_); (case side1 => repeat (first | exact (Kd.C_below HR1.out HB.out) | (with_reducible refine Kd.C_alloc ?_ _) | (with_reducible refine Kd.C_drewN ?_ _) | (with_reducible refine Kd.C_drew ?_))); (case side2 => exact HC1.out); rintro e w40 ⟨rfl, hb⟩; refine ⟨_, rfl, ?_⟩; have n0_ := Aside0.mk (blk_below (g := gb366) (o := .cells #[.int .u32 a0_0, .int .u32 a0_1, .int .u64 a0_2, .int .u64 a0_3, .int .u64 a0_4, .int .u64 a0_5, .int .u64 a0_6, .int .u64 a0_7, .int .u64 a0_8] 26 (0, 0)) (by (with_reducible repeat (first | refine blk_drewN ?_ _ | refine blk_drew ?_ | refine blk_alloc ?_ _)); exact BK366.out) hb); have n1_ := Aside0.mk (blk_below (g := gb381) (o := .cells #[.int .u32 t371, .int .u32 t372, .int .u64 t373, .int .u64 t374, .int .u64 t375, .int .u64 t376, .int .u64 t377, .int .u64 t378, .int .u64 t379] 26 (0, 0)) (by (with_reducible repeat (first | refine blk_drewN ?_ _ | refine blk_drew ?_ | refine blk_alloc ?_ _)); exact BK381.out) hb); have n2_ := Aside0.mk (below_step (by repeat (first | (with_reducible first | exact HB.out | apply below_alloc | apply pw_below_drewN | apply below_drew1 | refine below_set ?_ GE366.out | refine below_set ?_ GE381.out) | exact HB.out)) hb); clear BK366; clear BK381; clear HB; have BK366 := n0_; have BK381 := n1_; have HB := n2_; clear n0_ n1_ n2_; (try clear hb); (try clear hb2); (try clear hk); (try clear hi)) | ((with_reducible refine gate_dst (N := 8) rfl ?_); (try (refine gate_guard (by rfl) ?_; dsimp only)); refine box_event ?hg (N := 8) ?hd (cs := #[.int .u32 0, .int .u32 0, .int .u64 0, .int .u64 0, .int .u64 0, .int .u64 0, .int .u64 0, .int .u64 0, .int .u64 0]) (t := 26) ?hr ?_; (case hd => rfl); (case hg => rfl); (case hr => first | (go_simp; done) | (go_simp; rfl)); intro gb392 hg w41 hbox hb; have n0_ := Aside0.mk (blk_below (g := gb366) (o := .cells #[.int .u32 a0_0, .int .u32 a0_1, .int .u64 a0_2, .int .u64 a0_3, .int .u64 a0_4, .int .u64 a0_5, .int .u64 a0_6, .int .u64 a0_7, .int .u64 a0_8] 26 (0, 0)) (by (with_reducible repeat (first | refine blk_drewN ?_ _ | refine blk_drew ?_ | refine blk_alloc ?_ _)); exact BK366.out) hb); have n1_ := Aside0.mk (blk_below (g := gb381) (o := .cells #[.int .u32 t371, .int .u32 t372, .int .u64 t373, .int .u64 t374, .int .u64 t375, .int .u64 t376, .int .u64 t377, .int .u64 t378, .int .u64 t379] 26 (0, 0)) (by (with_reducible repeat (first | refine blk_drewN ?_ _ | refine blk_drew ?_ | refine blk_alloc ?_ _)); exact BK381.out) hb); have n2_ := Aside0.mk (below_step (by repeat (first | (with_reducible first | exact HB.out | apply below_alloc | apply pw_below_drewN | apply below_drew1 | refine below_set ?_ GE366.out | refine below_set ?_ GE381.out) | exact HB.out)) hb); have n3_ := Aside0.mk (hbox); have n4_ := Aside0.mk ((by rw [hg]; exact (below_size (by repeat (first | (with_reducible first | exact HB.out | apply below_alloc | apply pw_below_drewN | apply below_drew1 | refine below_set ?_ GE366.out | refine below_set ?_ GE381.out) | exact HB.out))) : w.heap.size ≤ gb392)); have n5_ := Aside0.mk ((by rw [hg]; exact (below_size (by repeat (first | (with_reducible first | exact HB.out | apply below_alloc | apply pw_below_drewN | apply below_drew1 | refine below_set ?_ GE366.out | refine below_set ?_ GE381.out) | exact HB.out))) : w.heap.size ≤ gb392)); have n6_ := Aside0.mk ((by rw [hg]; exact Nat.ne_of_lt (blk_lt (g := gb366) (o := .cells #[.int .u32 a0_0, .int .u32 a0_1, .int .u64 a0_2, .int .u64 a0_3, .int .u64 a0_4, .int .u64 a0_5, .int .u64 a0_6, .int .u64 a0_7, .int .u64 a0_8] 26 (0, 0)) (by (with_reducible repeat (first | refine blk_drewN ?_ _ | refine blk_drew ?_ | refine blk_alloc ?_ _)); exact BK366.out)) : gb366 ≠ gb392)); have n7_ := Aside0.mk ((by rw [hg]; exact Nat.ne_of_gt (blk_lt (g := gb366) (o := .cells #[.int .u32 a0_0, .int .u32 a0_1, .int .u64 a0_2, .int .u64 a0_3, .int .u64 a0_4, .int .u64 a0_5, .int .u64 a0_6, .int .u64 a0_7, .int .u64 a0_8] 26 (0, 0)) (by (with_reducible repeat (first | refine blk_drewN ?_ _ | refine blk_drew ?_ | refine blk_alloc ?_ _)); exact BK366.out)) : gb392 ≠ gb366)); have n8_ := Aside0.mk ((by rw [hg]; exact Nat.ne_of_lt (blk_lt (g := gb381) (o := .cells #[.int .u32 t371, .int .u32 t372, .int .u64 t373, .int .u64 t374, .int .u64 t375, .int .u64 t376, .int .u64 t377, .int .u64 t378, .int .u64 t379] 26 (0, 0)) (by (with_reducible repeat (first | refine blk_drewN ?_ _ | refine blk_drew ?_ | refine blk_alloc ?_ _)); exact BK381.out)) : gb381 ≠ gb392)); have n9_ := Aside0.mk ((by rw [hg]; exact Nat.ne_of_gt (blk_lt (g := gb381) (o := .cells #[.int .u32 t371, .int .u32 t372, .int .u64 t373, .int .u64 t374, .int .u64 t375, .int .u64 t376, .int .u64 t377, .int .u64 t378, .int .u64 t379] 26 (0, 0)) (by (with_reducible repeat (first | refine blk_drewN ?_ _ | refine blk_drew ?_ | refine blk_alloc ?_ _)); exact BK381.out)) : gb392 ≠ gb381)); clear BK366; clear BK381; clear HB; have BK366 := n0_; have BK381 := n1_; have HB := n2_; have BK392 := n3_; have GW392 := n4_; have GE392 := n5_; have NB366_392 := n6_; have NB392_366 := n7_; have NB381_392 := n8_; have NB392_381 := n9_; clear n0_ n1_ n2_ n3_ n4_ n5_ n6_ n7_ n8_ n9_; clear hb hbox hg; have hnb42 := NB392_366.out; have hnc42 := NB366_392.out; have hnb43 := NB392_381.out; have hnc43 := NB381_392.out; have hcz44_0 : w41.cell? ⟨gb392, 0, none⟩ = some (.int .u32 0) := (blk_cell BK392.out 0).trans rfl; have hcz44_1 : w41.cell? ⟨gb392, 1, none⟩ = some (.int .u32 0) := (blk_cell BK392.out 1).trans rfl; have hcz44_2 : w41.cell? ⟨gb392, 2, none⟩ = some (.int .u64 0) := (blk_cell BK392.out 2).trans rfl; have hcz44_3 : w41.cell? ⟨gb392, 3, none⟩ = some (.int .u64 0) := (blk_cell BK392.out 3).trans rfl; have hcz44_4 : w41.cell? ⟨gb392, 4, none⟩ = some (.int .u64 0) := (blk_cell BK392.out 4).trans rfl; have hcz44_5 : w41.cell? ⟨gb392, 5, none⟩ = some (.int .u64 0) := (blk_cell BK392.out 5).trans rfl; have hcz44_6 : w41.cell? ⟨gb392, 6, none⟩ = some (.int .u64 0) := (blk_cell BK392.out 6).trans rfl; have hcz44_7 : w41.cell? ⟨gb392, 7, none⟩ = some (.int .u64 0) := (blk_cell BK392.out 7).trans rfl; have hcz44_8 : w41.cell? ⟨gb392, 8, none⟩ = some (.int .u64 0) := (blk_cell BK392.out 8).trans rfl; have hfz44_0 := blk_frozen BK392.out 0; have hfz44_1 := blk_frozen BK392.out 1; have hfz44_2 := blk_frozen BK392.out 2; have hfz44_3 := blk_frozen BK392.out 3; have hfz44_4 := blk_frozen BK392.out 4; have hfz44_5 := blk_frozen BK392.out 5; have hfz44_6 := blk_frozen BK392.out 6; have hfz44_7 := blk_frozen BK392.out 7; have hfz44_8 := blk_frozen BK392.out 8))
       have n0_ : Aside0 ((((((((((w41.setCell ⟨gb392, 0, none⟩ (.int .u32 t382)).setCell ⟨gb392, 1, none⟩ (.int .u32 t383)).setCell ⟨gb392, 2, none⟩ (.int .u64 t384)).setCell ⟨gb392, 3, none⟩ (.int .u64 t385)).setCell ⟨gb392, 4, none⟩ (.int .u64 t386)).setCell ⟨gb392, 5, none⟩ (.int .u64 t387)).setCell ⟨gb392, 6, none⟩ (.int .u64 t388)).setCell ⟨gb392, 7, none⟩ (.int .u64 t389)).setCell ⟨gb392, 8, none⟩ (.int .u64 t390)).heap[gb366]? = some (.cells #[.int .u32 a0_0, .int .u32 a0_1, .int .u64 a0_2, .int .u64 a0_3, .int .u64 a0_4, .int .u64 a0_5, .int .u64 a0_6, .int .u64 a0_7, .int .u64 a0_8] 26 (0, 0))) := ⟨by (with_reducible repeat (first | refine blk_drewN ?_ _ | refine blk_drew ?_ | refine blk_alloc ?_ _)); refine blk_far ?_ NB366_392.out _; (with_reducible repeat (first | refine blk_drewN ?_ _ | refine blk_drew ?_ | refine blk_alloc ?_ _)); refine blk_far ?_ NB366_392.out _; (with_reducible repeat (first | refine blk_drewN ?_ _ | refine blk_drew ?_ | refine blk_alloc ?_ _)); refine blk_far ?_ NB366_392.out _; (with_reducible repeat (first | refine blk_drewN ?_ _ | refine blk_drew ?_ | refine blk_alloc ?_ _)); refine blk_far ?_ NB366_392.out _; (with_reducible repeat (first | refine blk_drewN ?_ _ | refine blk_drew ?_ | refine blk_alloc ?_ _)); refine blk_far ?_ NB366_392.out _; (with_reducible repeat (first | refine blk_drewN ?_ _ | refine blk_drew ?_ | refine blk_alloc ?_ _)); refine blk_far ?_ NB366_392.out _; (with_reducible repeat (first | refine blk_drewN ?_ _ | refine blk_drew ?_ | refine blk_alloc ?_ _)); refine blk_far ?_ NB366_392.out _; (with_reducible repeat (first | refine blk_drewN ?_ _ | refine blk_drew ?_ | refine blk_alloc ?_ _)); refine blk_far ?_ NB366_392.out _; (with_reducible repeat (first | refine blk_drewN ?_ _ | refine blk_drew ?_ | refine blk_alloc ?_ _)); refine blk_far ?_ NB366_392.out _; (with_reducible repeat (first | refine blk_drewN ?_ _ | refine blk_drew ?_ | refine blk_alloc ?_ _)); exact BK366.out⟩
       have n1_ : Aside0 ((((((((((w41.setCell ⟨gb392, 0, none⟩ (.int .u32 t382)).setCell ⟨gb392, 1, none⟩ (.int .u32 t383)).setCell ⟨gb392, 2, none⟩ (.int .u64 t384)).setCell ⟨gb392, 3, none⟩ (.int .u64 t385)).setCell ⟨gb392, 4, none⟩ (.int .u64 t386)).setCell ⟨gb392, 5, none⟩ (.int .u64 t387)).setCell ⟨gb392, 6, none⟩ (.int .u64 t388)).setCell ⟨gb392, 7, none⟩ (.int .u64 t389)).setCell ⟨gb392, 8, none⟩ (.int .u64 t390)).heap[gb381]? = some (.cells #[.int .u32 t371, .int .u32 t372, .int .u64 t373, .int .u64 t374, .int .u64 t375, .int .u64 t376, .int .u64 t377, .int .u64 t378, .int .u64 t379] 26 (0, 0))) := ⟨by (with_reducible repeat (first | refine blk_drewN ?_ _ | refine blk_drew ?_ | refine blk_alloc ?_ _)); refine blk_far ?_ NB381_392.out _; (with_reducible repeat (first | refine blk_drewN ?_ _ | refine blk_drew ?_ | refine blk_alloc ?_ _)); refine blk_far ?_ NB381_392.out _; (with_reducible repeat (first | refine blk_drewN ?_ _ | refine blk_drew ?_ | refine blk_alloc ?_ _)); refine blk_far ?_ NB381_392.out _; (with_reducible repeat (first | refine blk_drewN ?_ _ | refine blk_drew ?_ | refine blk_alloc ?_ _)); refine blk_far ?_ NB381_392.out _; (with_reducible repeat (first | refine blk_drewN ?_ _ | refine blk_drew ?_ | refine blk_alloc ?_ _)); refine blk_far ?_ NB381_392.out _; (with_reducible repeat (first | refine blk_drewN ?_ _ | refine blk_drew ?_ | refine blk_alloc ?_ _)); refine blk_far ?_ NB381_392.out _; (with_reducible repeat (first | refine blk_drewN ?_ _ | refine blk_drew ?_ | refine blk_alloc ?_ _)); refine blk_far ?_ NB381_392.out _; (with_reducible repeat (first | refine blk_drewN ?_ _ | refine blk_drew ?_ | refine blk_alloc ?_ _)); refine blk_far ?_ NB381_392.out _; (with_reducible repeat (first | refine blk_drewN ?_ _ | refine blk_drew ?_ | refine blk_alloc ?_ _)); refine blk_far ?_ NB381_392.out _; (with_reducible repeat (first | refine blk_drewN ?_ _ | refine blk_drew ?_ | refine blk_alloc ?_ _)); exact BK381.out⟩
       have n2_ : Aside0 ((((((((((w41.setCell ⟨gb392, 0, none⟩ (.int .u32 t382)).setCell ⟨gb392, 1, none⟩ (.int .u32 t383)).setCell ⟨gb392, 2, none⟩ (.int .u64 t384)).setCell ⟨gb392, 3, none⟩ (.int .u64 t385)).setCell ⟨gb392, 4, none⟩ (.int .u64 t386)).setCell ⟨gb392, 5, none⟩ (.int .u64 t387)).setCell ⟨gb392, 6, none⟩ (.int .u64 t388)).setCell ⟨gb392, 7, none⟩ (.int .u64 t389)).setCell ⟨gb392, 8, none⟩ (.int .u64 t390)).heap[gb392]? = some (.cells #[.int .u32 t382, .int .u32 t383, .int .u64 t384, .int .u64 t385, .int .u64 t386, .int .u64 t387, .int .u64 t388, .int .u64 t389, .int .u64 t390] 26 (0, 0))) := ⟨by (with_reducible repeat (first | refine blk_drewN ?_ _ | refine blk_drew ?_ | refine blk_alloc ?_ _)); refine blk_put (cs := #[.int .u32 t382, .int .u32 t383, .int .u64 t384, .int .u64 t385, .int .u64 t386, .int .u64 t387, .int .u64 t388, .int .u64 t389, .int .u64 0]) ?_ 8 _ rfl; (with_reducible repeat (first | refine blk_drewN ?_ _ | refine blk_drew ?_ | refine blk_alloc ?_ _)); refine blk_put (cs := #[.int .u32 t382, .int .u32 t383, .int .u64 t384, .int .u64 t385, .int .u64 t386, .int .u64 t387, .int .u64 t388, .int .u64 0, .int .u64 0]) ?_ 7 _ rfl; (with_reducible repeat (first | refine blk_drewN ?_ _ | refine blk_drew ?_ | refine blk_alloc ?_ _)); refine blk_put (cs := #[.int .u32 t382, .int .u32 t383, .int .u64 t384, .int .u64 t385, .int .u64 t386, .int .u64 t387, .int .u64 0, .int .u64 0, .int .u64 0]) ?_ 6 _ rfl; (with_reducible repeat (first | refine blk_drewN ?_ _ | refine blk_drew ?_ | refine blk_alloc ?_ _)); refine blk_put (cs := #[.int .u32 t382, .int .u32 t383, .int .u64 t384, .int .u64 t385, .int .u64 t386, .int .u64 0, .int .u64 0, .int .u64 0, .int .u64 0]) ?_ 5 _ rfl; (with_reducible repeat (first | refine blk_drewN ?_ _ | refine blk_drew ?_ | refine blk_alloc ?_ _)); refine blk_put (cs := #[.int .u32 t382, .int .u32 t383, .int .u64 t384, .int .u64 t385, .int .u64 0, .int .u64 0, .int .u64 0, .int .u64 0, .int .u64 0]) ?_ 4 _ rfl; (with_reducible repeat (first | refine blk_drewN ?_ _ | refine blk_drew ?_ | refine blk_alloc ?_ _)); refine blk_put (cs := #[.int .u32 t382, .int .u32 t383, .int .u64 t384, .int .u64 0, .int .u64 0, .int .u64 0, .int .u64 0, .int .u64 0, .int .u64 0]) ?_ 3 _ rfl; (with_reducible repeat (first | refine blk_drewN ?_ _ | refine blk_drew ?_ | refine blk_alloc ?_ _)); refine blk_put (cs := #[.int .u32 t382, .int .u32 t383, .int .u64 0, .int .u64 0, .int .u64 0, .int .u64 0, .int .u64 0, .int .u64 0, .int .u64 0]) ?_ 2 _ rfl; (with_reducible repeat (first | refine blk_drewN ?_ _ | refine blk_drew ?_ | refine blk_alloc ?_ _)); refine blk_put (cs := #[.int .u32 t382, .int .u32 0, .int .u64 0, .int .u64 0, .int .u64 0, .int .u64 0, .int .u64 0, .int .u64 0, .int .u64 0]) ?_ 1 _ rfl; (with_reducible repeat (first | refine blk_drewN ?_ _ | refine blk_drew ?_ | refine blk_alloc ?_ _)); refine blk_put (cs := #[.int .u32 0, .int .u32 0, .int .u64 0, .int .u64 0, .int .u64 0, .int .u64 0, .int .u64 0, .int .u64 0, .int .u64 0]) ?_ 0 _ rfl; (with_reducible repeat (first | refine blk_drewN ?_ _ | refine blk_drew ?_ | refine blk_alloc ?_ _)); exact BK392.out⟩
       have n3_ : Aside0 (Below w.heap.size w (((((((((w41.setCell ⟨gb392, 0, none⟩ (.int .u32 t382)).setCell ⟨gb392, 1, none⟩ (.int .u32 t383)).setCell ⟨gb392, 2, none⟩ (.int .u64 t384)).setCell ⟨gb392, 3, none⟩ (.int .u64 t385)).setCell ⟨gb392, 4, none⟩ (.int .u64 t386)).setCell ⟨gb392, 5, none⟩ (.int .u64 t387)).setCell ⟨gb392, 6, none⟩ (.int .u64 t388)).setCell ⟨gb392, 7, none⟩ (.int .u64 t389)).setCell ⟨gb392, 8, none⟩ (.int .u64 t390))) := ⟨by repeat (first | (with_reducible first | exact HB.out | apply below_alloc | apply pw_below_drewN | apply below_drew1 | refine below_set ?_ GE366.out | refine below_set ?_ GE381.out | refine below_set ?_ GE392.out) | exact HB.out)⟩
       (try clear BK366)
       (try clear BK381)
       (try clear BK392)
       (try clear HB)
       generalize (((((((((w41.setCell ⟨gb392, 0, none⟩ (.int .u32 t382)).setCell ⟨gb392, 1, none⟩ (.int .u32 t383)).setCell ⟨gb392, 2, none⟩ (.int .u64 t384)).setCell ⟨gb392, 3, none⟩ (.int .u64 t385)).setCell ⟨gb392, 4, none⟩ (.int .u64 t386)).setCell ⟨gb392, 5, none⟩ (.int .u64 t387)).setCell ⟨gb392, 6, none⟩ (.int .u64 t388)).setCell ⟨gb392, 7, none⟩ (.int .u64 t389)).setCell ⟨gb392, 8, none⟩ (.int .u64 t390)) = w45 at n0_ n1_ n2_ n3_ ⊢
       have BK366 := n0_
       have BK381 := n1_
       have BK392 := n2_
       have HB := n3_
       clear n0_ n1_ n2_ n3_
       have n0_ := Aside0.mk (blk_drew BK366.out)
       have n1_ := Aside0.mk (blk_drew BK381.out)
       have n2_ := Aside0.mk (blk_drew BK392.out)
       have n3_ := Aside0.mk (below_drew1 HB.out)
       clear BK366
       clear BK381
       clear BK392
       clear HB
       have BK366 := n0_
       have BK381 := n1_
       have BK392 := n2_
       have HB := n3_
       clear n0_ n1_ n2_ n3_
       refine start_ (n := 10) (S := fun w' => w'.cell? ⟨gb392, 0, none⟩ = some (.int .u32 t382) ∧ w'.cell? ⟨gb392, 1, none⟩ = some (.int .u32 t383) ∧ w'.cell? ⟨gb392, 2, none⟩ = some (.int .u64 t384) ∧ w'.cell? ⟨gb392, 3, none⟩ = some (.int .u64 t385) ∧ w'.cell? ⟨gb392, 4, none⟩ = some (.int .u64 t386) ∧ w'.cell? ⟨gb392, 5, none⟩ = some (.int .u64 t387) ∧ w'.cell? ⟨gb392, 6, none⟩ = some (.int .u64 t388) ∧ w'.cell? ⟨gb392, 7, none⟩ = some (.int .u64 t389) ∧ w'.cell? ⟨gb392, 8, none⟩ = some (.int .u64 t390) ∧ Below w.heap.size w w') (ds := []) #[false, false, false, false, false, false, false, false, false, false] (by kernel_rfl) rfl rfl ⟨(blk_cell BK392.out 0).trans rfl, (blk_cell BK392.out 1).trans rfl, (blk_cell BK392.out 2).trans rfl, (blk_cell BK392.out 3).trans rfl, (blk_cell BK392.out 4).trans rfl, (blk_cell BK392.out 5).trans rfl, (blk_cell BK392.out 6).trans rfl, (blk_cell BK392.out 7).trans rfl, (blk_cell BK392.out 8).trans rfl, (by exact HB.out)⟩ (fun hHeld => ?_); refine with_tabW fairleadlaw04_DataBack.tab6 fairleadlaw04_DataBack.bits6 (fun HT_ HW_ => ?_)
       generalize w45.drew = w46 at BK366 BK381 BK392 HB hHeld ⊢
       refine pure_ (i := 0) (N := some 29) (v := ?_) (a' := ?_) #[true, false, false, false, false, false, false, false, false, false] rfl rfl (any_of HT_.out (by kernel_rfl)) (fun _ _ _ h => h) (Or.inl ⟨by rfl, ?_⟩) ?_ ?_
       rotate_left
       ·intro w'
        go_simp
        with_reducible rfl
       rotate_left
       ·simp only [Act.put, List.setIfInBounds_toArray, List.set_cons_zero, List.set_cons_succ, i64_w, i32_w]
        rfl
       refine pure_ (i := 1) (N := some 30) (v := ?_) (a' := ?_) #[true, true, false, false, false, false, false, false, false, false] rfl rfl (any_of HT_.out (by kernel_rfl)) (fun _ _ _ h => h) (Or.inl ⟨by rfl, ?_⟩) ?_ ?_
       rotate_left
       ·intro w'
        go_simp
        with_reducible rfl
       rotate_left
       ·simp only [Act.put, List.setIfInBounds_toArray, List.set_cons_zero, List.set_cons_succ, i64_w, i32_w]
        rfl
       refine pure_ (i := 2) (N := some 31) (v := ?_) (a' := ?_) #[true, true, true, false, false, false, false, false, false, false] rfl rfl (any_of HT_.out (by kernel_rfl)) (fun _ _ _ h => h) (Or.inl ⟨by rfl, ?_⟩) ?_ ?_
       rotate_left
       ·intro w'
        go_simp
        with_reducible rfl
       rotate_left
       ·simp only [Act.put, List.setIfInBounds_toArray, List.set_cons_zero, List.set_cons_succ, i64_w, i32_w]
        rfl
       refine pure_ (i := 6) (N := some 35) (v := ?_) (a' := ?_) #[true, true, true, false, false, false, true, false, false, false] rfl rfl (any_of HT_.out (by kernel_rfl)) (fun _ _ _ h => h) (Or.inl ⟨by rfl, ?_⟩) ?_ ?_
       rotate_left
       ·intro w'
        go_simp
        with_reducible rfl
       rotate_left
       ·simp only [Act.put, List.setIfInBounds_toArray, List.set_cons_zero, List.set_cons_succ, i64_w, i32_w]
        rfl
       refine take_ (i := 7) (N := some 36) (v := ?_) (a' := ?_) #[true, true, true, false, false, false, true, true, false, false] rfl rfl (take_ofW HT_.out HW_.out (by kernel_rfl)) (fun _ _ _ h => h) (Or.inl ⟨by rfl, ?_⟩) hHeld ?_ ?_
       rotate_left
       ·rintro w' ⟨s0, s1, s2, s3, s4, s5, s6, s7, s8, hb_⟩
        have hcv_ := Kd.C_string (P := Try.prog) (A := A1) (c := c1) Try.underlying28 Try.underlying5 Try.underlying9 (Kd.C_below HR1.out hb_)
        go_simp
        with_reducible rfl
       rotate_left
       ·simp only [Act.put, List.setIfInBounds_toArray, List.set_cons_zero, List.set_cons_succ, i64_w, i32_w]
        rfl
       refine take_ (i := 3) (N := some 32) (v := ?_) (a' := ?_) #[true, true, true, true, false, false, true, true, false, false] rfl rfl (take_ofW HT_.out HW_.out (by kernel_rfl)) (fun _ _ _ h => h) (Or.inl ⟨by rfl, ?_⟩) hHeld ?_ ?_
       rotate_left
       ·rintro w' ⟨s0, s1, s2, s3, s4, s5, s6, s7, s8, sB_⟩
        go_simp
        with_reducible rfl
       rotate_left
       ·simp only [Act.put, List.setIfInBounds_toArray, List.set_cons_zero, List.set_cons_succ, i64_w, i32_w]
        rfl
       refine one_ (i := 4) (N := some 33) #[true, true, true, true, true, false, true, true, false, false] rfl rfl (one_of HT_.out (by kernel_rfl)) (by decide) (fun K hK => ?_)
       refine goes_ Try.func10 (by kernel_rfl) rfl #[.agg #[.int .u32 t382, .int .u32 t383, .int .u64 t384, .int .u64 t385, .int .u64 t386, .int .u64 t387, .int .u64 t388, .int .u64 t389, .int .u64 t390]] (by rfl) rfl rfl (by (try simp only [List.map_toArray, List.map_cons, List.map_nil]); first | done | rfl | (simp only [List.length_drop, List.length_take]; rfl)) ?_
       with_reducible refine (data_Bytes.calls kj5 t382 t383 t384 t385 t386 t387 t388 t389 t390 t393 _ A26.out).mono ?_
       rintro e w47 ⟨v394, rfl, ho0, hb⟩
       refine ⟨_, rfl, ?_⟩
       have n0_ := Aside0.mk (Kd.R_lower ho0 (below_size (by repeat (first | (with_reducible first | exact HB.out | apply below_alloc | apply pw_below_drewN | apply below_drew1 | refine below_set ?_ GE366.out | refine below_set ?_ GE381.out | refine below_set ?_ GE392.out) | exact HB.out))))
       have n1_ := Aside0.mk (blk_below (g := gb366) (o := .cells #[.int .u32 a0_0, .int .u32 a0_1, .int .u64 a0_2, .int .u64 a0_3, .int .u64 a0_4, .int .u64 a0_5, .int .u64 a0_6, .int .u64 a0_7, .int .u64 a0_8] 26 (0, 0)) (by (with_reducible repeat (first | refine blk_drewN ?_ _ | refine blk_drew ?_ | refine blk_alloc ?_ _)); exact BK366.out) hb)
       have n2_ := Aside0.mk (blk_below (g := gb381) (o := .cells #[.int .u32 t371, .int .u32 t372, .int .u64 t373, .int .u64 t374, .int .u64 t375, .int .u64 t376, .int .u64 t377, .int .u64 t378, .int .u64 t379] 26 (0, 0)) (by (with_reducible repeat (first | refine blk_drewN ?_ _ | refine blk_drew ?_ | refine blk_alloc ?_ _)); exact BK381.out) hb)
       have n3_ := Aside0.mk (blk_below (g := gb392) (o := .cells #[.int .u32 t382, .int .u32 t383, .int .u64 t384, .int .u64 t385, .int .u64 t386, .int .u64 t387, .int .u64 t388, .int .u64 t389, .int .u64 t390] 26 (0, 0)) (by (with_reducible repeat (first | refine blk_drewN ?_ _ | refine blk_drew ?_ | refine blk_alloc ?_ _)); exact BK392.out) hb)
       have n4_ := Aside0.mk (below_step (by repeat (first | (with_reducible first | exact HB.out | apply below_alloc | apply pw_below_drewN | apply below_drew1 | refine below_set ?_ GE366.out | refine below_set ?_ GE381.out | refine below_set ?_ GE392.out) | exact HB.out)) hb)
       clear BK366
       clear BK381
       clear BK392
       clear HB
       have HO395 := n0_
       have BK366 := n1_
       have BK381 := n2_
       have BK392 := n3_
       have HB := n4_
       clear n0_ n1_ n2_ n3_ n4_
       (try clear hb)
       (try clear hb2)
       (try clear hk)
       (try clear hi)
       (try clear ho0)
       have hcv49 := Kd.C_string (P := Try.prog) (A := A1) (c := c1) Try.underlying28 Try.underlying5 Try.underlying9 (Kd.C_below HR1.out HB.out)
       refine hK.out _ _ ⟨(blk_cell BK392.out 0).trans rfl, (blk_cell BK392.out 1).trans rfl, (blk_cell BK392.out 2).trans rfl, (blk_cell BK392.out 3).trans rfl, (blk_cell BK392.out 4).trans rfl, (blk_cell BK392.out 5).trans rfl, (blk_cell BK392.out 6).trans rfl, (blk_cell BK392.out 7).trans rfl, (blk_cell BK392.out 8).trans rfl, (by exact HB.out)⟩ (fun hHeld => ?_)
       clear hK K
       refine norm_ (a' := ?_) ?_ ?_
       rotate_left
       ·show Act.put _ (some 33) _ = _
        simp only [Act.put, List.setIfInBounds_toArray, List.set_cons_zero, List.set_cons_succ, i64_w, i32_w]
        rfl
       refine one_ (i := 5) (N := some 34) #[true, true, true, true, true, true, true, true, false, false] rfl rfl (one_of HT_.out (by kernel_rfl)) (by decide) (fun K hK => ?_)
       have hcv48 := own_string (P := Try.prog) Try.underlying28 Try.underlying5 Try.underlying9 (Kd.own_of_R HO395.out)
       refine value_ (w1 := ?_) (v := ?_) (by rfl) rfl ?_ ?_
       rotate_left 2
       ·go_simp
        constructor
        ·rfl
        ·rfl
       clear hcv48
       refine hK.out _ _ ⟨(blk_cell BK392.out 0).trans rfl, (blk_cell BK392.out 1).trans rfl, (blk_cell BK392.out 2).trans rfl, (blk_cell BK392.out 3).trans rfl, (blk_cell BK392.out 4).trans rfl, (blk_cell BK392.out 5).trans rfl, (blk_cell BK392.out 6).trans rfl, (blk_cell BK392.out 7).trans rfl, (blk_cell BK392.out 8).trans rfl, (by exact HB.out)⟩ (fun hHeld => ?_)
       clear hK K
       refine norm_ (a' := ?_) ?_ ?_
       rotate_left
       ·show Act.put _ (some 34) _ = _
        simp only [Act.put, List.setIfInBounds_toArray, List.set_cons_zero, List.set_cons_succ, i64_w, i32_w]
        rfl
       refine pure_ (i := 8) (N := some 37) (v := ?_) (a' := ?_) #[true, true, true, true, true, true, true, true, true, false] rfl rfl (any_of HT_.out (by kernel_rfl)) (fun _ _ _ h => h) (Or.inl ⟨by rfl, ?_⟩) ?_ ?_
       rotate_left
       ·intro w'
        go_simp
        with_reducible rfl
       rotate_left
       ·simp only [Act.put, List.setIfInBounds_toArray, List.set_cons_zero, List.set_cons_succ, i64_w, i32_w]
        rfl
       refine pure_ (i := 9) (N := some 38) (v := ?_) (a' := ?_) #[true, true, true, true, true, true, true, true, true, true] rfl rfl (any_of HT_.out (by kernel_rfl)) (fun _ _ _ h => h) (Or.inl ⟨by rfl, ?_⟩) ?_ ?_
       rotate_left
       ·intro w'
        go_simp
        with_reducible rfl
       rotate_left
       ·simp only [Act.put, List.setIfInBounds_toArray, List.set_cons_zero, List.set_cons_succ, i64_w, i32_w]
        rfl
       refine done_ (done_of HT_.out (by kernel_rfl)) ?_
       try go_wp2
       go_ret
       exact ⟨by first | rfl | (simp [errW_none, errW_some] <;> rfl) | (simp [*, errW_none, errW_some] <;> rfl), by repeat (first | (with_reducible first | exact HB.out | apply below_alloc | apply pw_below_drewN | apply below_drew1 | refine below_set ?_ GE366.out | refine below_set ?_ GE381.out | refine below_set ?_ GE392.out) | exact HB.out)⟩
     ·rw [if_neg c27] at H
      have c27b0 : ((strOfNums t393).toList == (strOfNums l1).toList) = false := beq_eq_false_iff_ne.mpr c27
      have c27b1 : ((strOfNums t393).toList != (strOfNums l1).toList) = true := bne_iff_ne.mpr c27
      obtain rfl := Option.some.inj H
      try go_wp2_with (first | ((with_reducible refine gate_callee (f := 15) rfl ?_); refine goesL_ (some 26) rfl rfl Try.func15 (by kernel_rfl) rfl #[.slice A1 l1.length c1] rfl (by (try simp only [List.map_toArray, List.map_cons, List.map_nil]); first | done | rfl | (simp only [List.length_drop, List.length_take]; rfl)) ?_; (with_reducible refine (data_Of.calls kj5 _ _ l1 t382 t383 t384 t385 t386 t387 t388 t389 t390 t391 _ ?side1 ?side2 A24.out).mono ?_); (case side1 => repeat (first | exact (Kd.C_below HR1.out HB.out) | (with_reducible refine Kd.C_alloc ?_ _) | (with_reducible refine Kd.C_drewN ?_ _) | (with_reducible refine Kd.C_drew ?_))); (case side2 => exact HC1.out); rintro e w51 ⟨rfl, hb⟩; refine ⟨_, rfl, ?_⟩; have n0_ := Aside0.mk (blk_below (g := gb366) (o := .cells #[.int .u32 a0_0, .int .u32 a0_1, .int .u64 a0_2, .int .u64 a0_3, .int .u64 a0_4, .int .u64 a0_5, .int .u64 a0_6, .int .u64 a0_7, .int .u64 a0_8] 26 (0, 0)) (by (with_reducible repeat (first | refine blk_drewN ?_ _ | refine blk_drew ?_ | refine blk_alloc ?_ _)); exact BK366.out) hb); have n1_ := Aside0.mk (blk_below (g := gb381) (o := .cells #[.int .u32 t371, .int .u32 t372, .int .u64 t373, .int .u64 t374, .int .u64 t375, .int .u64 t376, .int .u64 t377, .int .u64 t378, .int .u64 t379] 26 (0, 0)) (by (with_reducible repeat (first | refine blk_drewN ?_ _ | refine blk_drew ?_ | refine blk_alloc ?_ _)); exact BK381.out) hb); have n2_ := Aside0.mk (below_step (by repeat (first | (with_reducible first | exact HB.out | apply below_alloc | apply pw_below_drewN | apply below_drew1 | refine below_set ?_ GE366.out | refine below_set ?_ GE381.out) | exact HB.out)) hb); clear BK366; clear BK381; clear HB; have BK366 := n0_; have BK381 := n1_; have HB := n2_; clear n0_ n1_ n2_; (try clear hb); (try clear hb2); (try clear hk); (try clear hi)) | ((with_reducible refine gate_dst (N := 8) rfl ?_); (try (refine gate_guard (by rfl) ?_; dsimp only)); refine box_event ?hg (N := 8) ?hd (cs := #[.int .u32 0, .int .u32 0, .int .u64 0, .int .u64 0, .int .u64 0, .int .u64 0, .int .u64 0, .int .u64 0, .int .u64 0]) (t := 26) ?hr ?_; (case hd => rfl); (case hg => rfl); (case hr => first | (go_simp; done) | (go_simp; rfl)); intro gb392 hg w52 hbox hb; have n0_ := Aside0.mk (blk_below (g := gb366) (o := .cells #[.int .u32 a0_0, .int .u32 a0_1, .int .u64 a0_2, .int .u64 a0_3, .int .u64 a0_4, .int .u64 a0_5, .int .u64 a0_6, .int .u64 a0_7, .int .u64 a0_8] 26 (0, 0)) (by (with_reducible repeat (first | refine blk_drewN ?_ _ | refine blk_drew ?_ | refine blk_alloc ?_ _)); exact BK366.out) hb); have n1_ := Aside0.mk (blk_below (g := gb381) (o := .cells #[.int .u32 t371, .int .u32 t372, .int .u64 t373, .int .u64 t374, .int .u64 t375, .int .u64 t376, .int .u64 t377, .int .u64 t378, .int .u64 t379] 26 (0, 0)) (by (with_reducible repeat (first | refine blk_drewN ?_ _ | refine blk_drew ?_ | refine blk_alloc ?_ _)); exact BK381.out) hb); have n2_ := Aside0.mk (below_step (by repeat (first | (with_reducible first | exact HB.out | apply below_alloc | apply pw_below_drewN | apply below_drew1 | refine below_set ?_ GE366.out | refine below_set ?_ GE381.out) | exact HB.out)) hb); have n3_ := Aside0.mk (hbox); have n4_ := Aside0.mk ((by rw [hg]; exact (below_size (by repeat (first | (with_reducible first | exact HB.out | apply below_alloc | apply pw_below_drewN | apply below_drew1 | refine below_set ?_ GE366.out | refine below_set ?_ GE381.out) | exact HB.out))) : w.heap.size ≤ gb392)); have n5_ := Aside0.mk ((by rw [hg]; exact (below_size (by repeat (first | (with_reducible first | exact HB.out | apply below_alloc | apply pw_below_drewN | apply below_drew1 | refine below_set ?_ GE366.out | refine below_set ?_ GE381.out) | exact HB.out))) : w.heap.size ≤ gb392)); have n6_ := Aside0.mk ((by rw [hg]; exact Nat.ne_of_lt (blk_lt (g := gb366) (o := .cells #[.int .u32 a0_0, .int .u32 a0_1, .int .u64 a0_2, .int .u64 a0_3, .int .u64 a0_4, .int .u64 a0_5, .int .u64 a0_6, .int .u64 a0_7, .int .u64 a0_8] 26 (0, 0)) (by (with_reducible repeat (first | refine blk_drewN ?_ _ | refine blk_drew ?_ | refine blk_alloc ?_ _)); exact BK366.out)) : gb366 ≠ gb392)); have n7_ := Aside0.mk ((by rw [hg]; exact Nat.ne_of_gt (blk_lt (g := gb366) (o := .cells #[.int .u32 a0_0, .int .u32 a0_1, .int .u64 a0_2, .int .u64 a0_3, .int .u64 a0_4, .int .u64 a0_5, .int .u64 a0_6, .int .u64 a0_7, .int .u64 a0_8] 26 (0, 0)) (by (with_reducible repeat (first | refine blk_drewN ?_ _ | refine blk_drew ?_ | refine blk_alloc ?_ _)); exact BK366.out)) : gb392 ≠ gb366)); have n8_ := Aside0.mk ((by rw [hg]; exact Nat.ne_of_lt (blk_lt (g := gb381) (o := .cells #[.int .u32 t371, .int .u32 t372, .int .u64 t373, .int .u64 t374, .int .u64 t375, .int .u64 t376, .int .u64 t377, .int .u64 t378, .int .u64 t379] 26 (0, 0)) (by (with_reducible repeat (first | refine blk_drewN ?_ _ | refine blk_drew ?_ | refine blk_alloc ?_ _)); exact BK381.out)) : gb381 ≠ gb392)); have n9_ := Aside0.mk ((by rw [hg]; exact Nat.ne_of_gt (blk_lt (g := gb381) (o := .cells #[.int .u32 t371, .int .u32 t372, .int .u64 t373, .int .u64 t374, .int .u64 t375, .int .u64 t376, .int .u64 t377, .int .u64 t378, .int .u64 t379] 26 (0, 0)) (by (with_reducible repeat (first | refine blk_drewN ?_ _ | refine blk_drew ?_ | refine blk_alloc ?_ _)); exact BK381.out)) : gb392 ≠ gb381)); clear BK366; clear BK381; clear HB; have BK366 := n0_; have BK381 := n1_; have HB := n2_; have BK392 := n3_; have GW392 := n4_; have GE392 := n5_; have NB366_392 := n6_; have NB392_366 := n7_; have NB381_392 := n8_; have NB392_381 := n9_; clear n0_ n1_ n2_ n3_ n4_ n5_ n6_ n7_ n8_ n9_; clear hb hbox hg; have hnb53 := NB392_366.out; have hnc53 := NB366_392.out; have hnb54 := NB392_381.out; have hnc54 := NB381_392.out; have hcz55_0 : w52.cell? ⟨gb392, 0, none⟩ = some (.int .u32 0) := (blk_cell BK392.out 0).trans rfl; have hcz55_1 : w52.cell? ⟨gb392, 1, none⟩ = some (.int .u32 0) := (blk_cell BK392.out 1).trans rfl; have hcz55_2 : w52.cell? ⟨gb392, 2, none⟩ = some (.int .u64 0) := (blk_cell BK392.out 2).trans rfl; have hcz55_3 : w52.cell? ⟨gb392, 3, none⟩ = some (.int .u64 0) := (blk_cell BK392.out 3).trans rfl; have hcz55_4 : w52.cell? ⟨gb392, 4, none⟩ = some (.int .u64 0) := (blk_cell BK392.out 4).trans rfl; have hcz55_5 : w52.cell? ⟨gb392, 5, none⟩ = some (.int .u64 0) := (blk_cell BK392.out 5).trans rfl; have hcz55_6 : w52.cell? ⟨gb392, 6, none⟩ = some (.int .u64 0) := (blk_cell BK392.out 6).trans rfl; have hcz55_7 : w52.cell? ⟨gb392, 7, none⟩ = some (.int .u64 0) := (blk_cell BK392.out 7).trans rfl; have hcz55_8 : w52.cell? ⟨gb392, 8, none⟩ = some (.int .u64 0) := (blk_cell BK392.out 8).trans rfl; have hfz55_0 := blk_frozen BK392.out 0; have hfz55_1 := blk_frozen BK392.out 1; have hfz55_2 := blk_frozen BK392.out 2; have hfz55_3 := blk_frozen BK392.out 3; have hfz55_4 := blk_frozen BK392.out 4; have hfz55_5 := blk_frozen BK392.out 5; have hfz55_6 := blk_frozen BK392.out 6; have hfz55_7 := blk_frozen BK392.out 7; have hfz55_8 := blk_frozen BK392.out 8))
      have n0_ : Aside0 ((((((((((w52.setCell ⟨gb392, 0, none⟩ (.int .u32 t382)).setCell ⟨gb392, 1, none⟩ (.int .u32 t383)).setCell ⟨gb392, 2, none⟩ (.int .u64 t384)).setCell ⟨gb392, 3, none⟩ (.int .u64 t385)).setCell ⟨gb392, 4, none⟩ (.int .u64 t386)).setCell ⟨gb392, 5, none⟩ (.int .u64 t387)).setCell ⟨gb392, 6, none⟩ (.int .u64 t388)).setCell ⟨gb392, 7, none⟩ (.int .u64 t389)).setCell ⟨gb392, 8, none⟩ (.int .u64 t390)).heap[gb366]? = some (.cells #[.int .u32 a0_0, .int .u32 a0_1, .int .u64 a0_2, .int .u64 a0_3, .int .u64 a0_4, .int .u64 a0_5, .int .u64 a0_6, .int .u64 a0_7, .int .u64 a0_8] 26 (0, 0))) := ⟨by (with_reducible repeat (first | refine blk_drewN ?_ _ | refine blk_drew ?_ | refine blk_alloc ?_ _)); refine blk_far ?_ NB366_392.out _; (with_reducible repeat (first | refine blk_drewN ?_ _ | refine blk_drew ?_ | refine blk_alloc ?_ _)); refine blk_far ?_ NB366_392.out _; (with_reducible repeat (first | refine blk_drewN ?_ _ | refine blk_drew ?_ | refine blk_alloc ?_ _)); refine blk_far ?_ NB366_392.out _; (with_reducible repeat (first | refine blk_drewN ?_ _ | refine blk_drew ?_ | refine blk_alloc ?_ _)); refine blk_far ?_ NB366_392.out _; (with_reducible repeat (first | refine blk_drewN ?_ _ | refine blk_drew ?_ | refine blk_alloc ?_ _)); refine blk_far ?_ NB366_392.out _; (with_reducible repeat (first | refine blk_drewN ?_ _ | refine blk_drew ?_ | refine blk_alloc ?_ _)); refine blk_far ?_ NB366_392.out _; (with_reducible repeat (first | refine blk_drewN ?_ _ | refine blk_drew ?_ | refine blk_alloc ?_ _)); refine blk_far ?_ NB366_392.out _; (with_reducible repeat (first | refine blk_drewN ?_ _ | refine blk_drew ?_ | refine blk_alloc ?_ _)); refine blk_far ?_ NB366_392.out _; (with_reducible repeat (first | refine blk_drewN ?_ _ | refine blk_drew ?_ | refine blk_alloc ?_ _)); refine blk_far ?_ NB366_392.out _; (with_reducible repeat (first | refine blk_drewN ?_ _ | refine blk_drew ?_ | refine blk_alloc ?_ _)); exact BK366.out⟩
      have n1_ : Aside0 ((((((((((w52.setCell ⟨gb392, 0, none⟩ (.int .u32 t382)).setCell ⟨gb392, 1, none⟩ (.int .u32 t383)).setCell ⟨gb392, 2, none⟩ (.int .u64 t384)).setCell ⟨gb392, 3, none⟩ (.int .u64 t385)).setCell ⟨gb392, 4, none⟩ (.int .u64 t386)).setCell ⟨gb392, 5, none⟩ (.int .u64 t387)).setCell ⟨gb392, 6, none⟩ (.int .u64 t388)).setCell ⟨gb392, 7, none⟩ (.int .u64 t389)).setCell ⟨gb392, 8, none⟩ (.int .u64 t390)).heap[gb381]? = some (.cells #[.int .u32 t371, .int .u32 t372, .int .u64 t373, .int .u64 t374, .int .u64 t375, .int .u64 t376, .int .u64 t377, .int .u64 t378, .int .u64 t379] 26 (0, 0))) := ⟨by (with_reducible repeat (first | refine blk_drewN ?_ _ | refine blk_drew ?_ | refine blk_alloc ?_ _)); refine blk_far ?_ NB381_392.out _; (with_reducible repeat (first | refine blk_drewN ?_ _ | refine blk_drew ?_ | refine blk_alloc ?_ _)); refine blk_far ?_ NB381_392.out _; (with_reducible repeat (first | refine blk_drewN ?_ _ | refine blk_drew ?_ | refine blk_alloc ?_ _)); refine blk_far ?_ NB381_392.out _; (with_reducible repeat (first | refine blk_drewN ?_ _ | refine blk_drew ?_ | refine blk_alloc ?_ _)); refine blk_far ?_ NB381_392.out _; (with_reducible repeat (first | refine blk_drewN ?_ _ | refine blk_drew ?_ | refine blk_alloc ?_ _)); refine blk_far ?_ NB381_392.out _; (with_reducible repeat (first | refine blk_drewN ?_ _ | refine blk_drew ?_ | refine blk_alloc ?_ _)); refine blk_far ?_ NB381_392.out _; (with_reducible repeat (first | refine blk_drewN ?_ _ | refine blk_drew ?_ | refine blk_alloc ?_ _)); refine blk_far ?_ NB381_392.out _; (with_reducible repeat (first | refine blk_drewN ?_ _ | refine blk_drew ?_ | refine blk_alloc ?_ _)); refine blk_far ?_ NB381_392.out _; (with_reducible repeat (first | refine blk_drewN ?_ _ | refine blk_drew ?_ | refine blk_alloc ?_ _)); refine blk_far ?_ NB381_392.out _; (with_reducible repeat (first | refine blk_drewN ?_ _ | refine blk_drew ?_ | refine blk_alloc ?_ _)); exact BK381.out⟩
      have n2_ : Aside0 ((((((((((w52.setCell ⟨gb392, 0, none⟩ (.int .u32 t382)).setCell ⟨gb392, 1, none⟩ (.int .u32 t383)).setCell ⟨gb392, 2, none⟩ (.int .u64 t384)).setCell ⟨gb392, 3, none⟩ (.int .u64 t385)).setCell ⟨gb392, 4, none⟩ (.int .u64 t386)).setCell ⟨gb392, 5, none⟩ (.int .u64 t387)).setCell ⟨gb392, 6, none⟩ (.int .u64 t388)).setCell ⟨gb392, 7, none⟩ (.int .u64 t389)).setCell ⟨gb392, 8, none⟩ (.int .u64 t390)).heap[gb392]? = some (.cells #[.int .u32 t382, .int .u32 t383, .int .u64 t384, .int .u64 t385, .int .u64 t386, .int .u64 t387, .int .u64 t388, .int .u64 t389, .int .u64 t390] 26 (0, 0))) := ⟨by (with_reducible repeat (first | refine blk_drewN ?_ _ | refine blk_drew ?_ | refine blk_alloc ?_ _)); refine blk_put (cs := #[.int .u32 t382, .int .u32 t383, .int .u64 t384, .int .u64 t385, .int .u64 t386, .int .u64 t387, .int .u64 t388, .int .u64 t389, .int .u64 0]) ?_ 8 _ rfl; (with_reducible repeat (first | refine blk_drewN ?_ _ | refine blk_drew ?_ | refine blk_alloc ?_ _)); refine blk_put (cs := #[.int .u32 t382, .int .u32 t383, .int .u64 t384, .int .u64 t385, .int .u64 t386, .int .u64 t387, .int .u64 t388, .int .u64 0, .int .u64 0]) ?_ 7 _ rfl; (with_reducible repeat (first | refine blk_drewN ?_ _ | refine blk_drew ?_ | refine blk_alloc ?_ _)); refine blk_put (cs := #[.int .u32 t382, .int .u32 t383, .int .u64 t384, .int .u64 t385, .int .u64 t386, .int .u64 t387, .int .u64 0, .int .u64 0, .int .u64 0]) ?_ 6 _ rfl; (with_reducible repeat (first | refine blk_drewN ?_ _ | refine blk_drew ?_ | refine blk_alloc ?_ _)); refine blk_put (cs := #[.int .u32 t382, .int .u32 t383, .int .u64 t384, .int .u64 t385, .int .u64 t386, .int .u64 0, .int .u64 0, .int .u64 0, .int .u64 0]) ?_ 5 _ rfl; (with_reducible repeat (first | refine blk_drewN ?_ _ | refine blk_drew ?_ | refine blk_alloc ?_ _)); refine blk_put (cs := #[.int .u32 t382, .int .u32 t383, .int .u64 t384, .int .u64 t385, .int .u64 0, .int .u64 0, .int .u64 0, .int .u64 0, .int .u64 0]) ?_ 4 _ rfl; (with_reducible repeat (first | refine blk_drewN ?_ _ | refine blk_drew ?_ | refine blk_alloc ?_ _)); refine blk_put (cs := #[.int .u32 t382, .int .u32 t383, .int .u64 t384, .int .u64 0, .int .u64 0, .int .u64 0, .int .u64 0, .int .u64 0, .int .u64 0]) ?_ 3 _ rfl; (with_reducible repeat (first | refine blk_drewN ?_ _ | refine blk_drew ?_ | refine blk_alloc ?_ _)); refine blk_put (cs := #[.int .u32 t382, .int .u32 t383, .int .u64 0, .int .u64 0, .int .u64 0, .int .u64 0, .int .u64 0, .int .u64 0, .int .u64 0]) ?_ 2 _ rfl; (with_reducible repeat (first | refine blk_drewN ?_ _ | refine blk_drew ?_ | refine blk_alloc ?_ _)); refine blk_put (cs := #[.int .u32 t382, .int .u32 0, .int .u64 0, .int .u64 0, .int .u64 0, .int .u64 0, .int .u64 0, .int .u64 0, .int .u64 0]) ?_ 1 _ rfl; (with_reducible repeat (first | refine blk_drewN ?_ _ | refine blk_drew ?_ | refine blk_alloc ?_ _)); refine blk_put (cs := #[.int .u32 0, .int .u32 0, .int .u64 0, .int .u64 0, .int .u64 0, .int .u64 0, .int .u64 0, .int .u64 0, .int .u64 0]) ?_ 0 _ rfl; (with_reducible repeat (first | refine blk_drewN ?_ _ | refine blk_drew ?_ | refine blk_alloc ?_ _)); exact BK392.out⟩
      have n3_ : Aside0 (Below w.heap.size w (((((((((w52.setCell ⟨gb392, 0, none⟩ (.int .u32 t382)).setCell ⟨gb392, 1, none⟩ (.int .u32 t383)).setCell ⟨gb392, 2, none⟩ (.int .u64 t384)).setCell ⟨gb392, 3, none⟩ (.int .u64 t385)).setCell ⟨gb392, 4, none⟩ (.int .u64 t386)).setCell ⟨gb392, 5, none⟩ (.int .u64 t387)).setCell ⟨gb392, 6, none⟩ (.int .u64 t388)).setCell ⟨gb392, 7, none⟩ (.int .u64 t389)).setCell ⟨gb392, 8, none⟩ (.int .u64 t390))) := ⟨by repeat (first | (with_reducible first | exact HB.out | apply below_alloc | apply pw_below_drewN | apply below_drew1 | refine below_set ?_ GE366.out | refine below_set ?_ GE381.out | refine below_set ?_ GE392.out) | exact HB.out)⟩
      (try clear BK366)
      (try clear BK381)
      (try clear BK392)
      (try clear HB)
      generalize (((((((((w52.setCell ⟨gb392, 0, none⟩ (.int .u32 t382)).setCell ⟨gb392, 1, none⟩ (.int .u32 t383)).setCell ⟨gb392, 2, none⟩ (.int .u64 t384)).setCell ⟨gb392, 3, none⟩ (.int .u64 t385)).setCell ⟨gb392, 4, none⟩ (.int .u64 t386)).setCell ⟨gb392, 5, none⟩ (.int .u64 t387)).setCell ⟨gb392, 6, none⟩ (.int .u64 t388)).setCell ⟨gb392, 7, none⟩ (.int .u64 t389)).setCell ⟨gb392, 8, none⟩ (.int .u64 t390)) = w56 at n0_ n1_ n2_ n3_ ⊢
      have BK366 := n0_
      have BK381 := n1_
      have BK392 := n2_
      have HB := n3_
      clear n0_ n1_ n2_ n3_
      have n0_ := Aside0.mk (blk_drew BK366.out)
      have n1_ := Aside0.mk (blk_drew BK381.out)
      have n2_ := Aside0.mk (blk_drew BK392.out)
      have n3_ := Aside0.mk (below_drew1 HB.out)
      clear BK366
      clear BK381
      clear BK392
      clear HB
      have BK366 := n0_
      have BK381 := n1_
      have BK392 := n2_
      have HB := n3_
      clear n0_ n1_ n2_ n3_
      refine start_ (n := 10) (S := fun w' => w'.cell? ⟨gb392, 0, none⟩ = some (.int .u32 t382) ∧ w'.cell? ⟨gb392, 1, none⟩ = some (.int .u32 t383) ∧ w'.cell? ⟨gb392, 2, none⟩ = some (.int .u64 t384) ∧ w'.cell? ⟨gb392, 3, none⟩ = some (.int .u64 t385) ∧ w'.cell? ⟨gb392, 4, none⟩ = some (.int .u64 t386) ∧ w'.cell? ⟨gb392, 5, none⟩ = some (.int .u64 t387) ∧ w'.cell? ⟨gb392, 6, none⟩ = some (.int .u64 t388) ∧ w'.cell? ⟨gb392, 7, none⟩ = some (.int .u64 t389) ∧ w'.cell? ⟨gb392, 8, none⟩ = some (.int .u64 t390) ∧ Below w.heap.size w w') (ds := []) #[false, false, false, false, false, false, false, false, false, false] (by kernel_rfl) rfl rfl ⟨(blk_cell BK392.out 0).trans rfl, (blk_cell BK392.out 1).trans rfl, (blk_cell BK392.out 2).trans rfl, (blk_cell BK392.out 3).trans rfl, (blk_cell BK392.out 4).trans rfl, (blk_cell BK392.out 5).trans rfl, (blk_cell BK392.out 6).trans rfl, (blk_cell BK392.out 7).trans rfl, (blk_cell BK392.out 8).trans rfl, (by exact HB.out)⟩ (fun hHeld => ?_); refine with_tabW fairleadlaw04_DataBack.tab6 fairleadlaw04_DataBack.bits6 (fun HT_ HW_ => ?_)
      generalize w56.drew = w57 at BK366 BK381 BK392 HB hHeld ⊢
      refine pure_ (i := 0) (N := some 29) (v := ?_) (a' := ?_) #[true, false, false, false, false, false, false, false, false, false] rfl rfl (any_of HT_.out (by kernel_rfl)) (fun _ _ _ h => h) (Or.inl ⟨by rfl, ?_⟩) ?_ ?_
      rotate_left
      ·intro w'
       go_simp
       with_reducible rfl
      rotate_left
      ·simp only [Act.put, List.setIfInBounds_toArray, List.set_cons_zero, List.set_cons_succ, i64_w, i32_w]
       rfl
      refine pure_ (i := 1) (N := some 30) (v := ?_) (a' := ?_) #[true, true, false, false, false, false, false, false, false, false] rfl rfl (any_of HT_.out (by kernel_rfl)) (fun _ _ _ h => h) (Or.inl ⟨by rfl, ?_⟩) ?_ ?_
      rotate_left
      ·intro w'
       go_simp
       with_reducible rfl
      rotate_left
      ·simp only [Act.put, List.setIfInBounds_toArray, List.set_cons_zero, List.set_cons_succ, i64_w, i32_w]
       rfl
      refine pure_ (i := 2) (N := some 31) (v := ?_) (a' := ?_) #[true, true, true, false, false, false, false, false, false, false] rfl rfl (any_of HT_.out (by kernel_rfl)) (fun _ _ _ h => h) (Or.inl ⟨by rfl, ?_⟩) ?_ ?_
      rotate_left
      ·intro w'
       go_simp
       with_reducible rfl
      rotate_left
      ·simp only [Act.put, List.setIfInBounds_toArray, List.set_cons_zero, List.set_cons_succ, i64_w, i32_w]
       rfl
      refine pure_ (i := 6) (N := some 35) (v := ?_) (a' := ?_) #[true, true, true, false, false, false, true, false, false, false] rfl rfl (any_of HT_.out (by kernel_rfl)) (fun _ _ _ h => h) (Or.inl ⟨by rfl, ?_⟩) ?_ ?_
      rotate_left
      ·intro w'
       go_simp
       with_reducible rfl
      rotate_left
      ·simp only [Act.put, List.setIfInBounds_toArray, List.set_cons_zero, List.set_cons_succ, i64_w, i32_w]
       rfl
      refine take_ (i := 7) (N := some 36) (v := ?_) (a' := ?_) #[true, true, true, false, false, false, true, true, false, false] rfl rfl (take_ofW HT_.out HW_.out (by kernel_rfl)) (fun _ _ _ h => h) (Or.inl ⟨by rfl, ?_⟩) hHeld ?_ ?_
      rotate_left
      ·rintro w' ⟨s0, s1, s2, s3, s4, s5, s6, s7, s8, hb_⟩
       have hcv_ := Kd.C_string (P := Try.prog) (A := A1) (c := c1) Try.underlying28 Try.underlying5 Try.underlying9 (Kd.C_below HR1.out hb_)
       go_simp
       with_reducible rfl
      rotate_left
      ·simp only [Act.put, List.setIfInBounds_toArray, List.set_cons_zero, List.set_cons_succ, i64_w, i32_w]
       rfl
      refine take_ (i := 3) (N := some 32) (v := ?_) (a' := ?_) #[true, true, true, true, false, false, true, true, false, false] rfl rfl (take_ofW HT_.out HW_.out (by kernel_rfl)) (fun _ _ _ h => h) (Or.inl ⟨by rfl, ?_⟩) hHeld ?_ ?_
      rotate_left
      ·rintro w' ⟨s0, s1, s2, s3, s4, s5, s6, s7, s8, sB_⟩
       go_simp
       with_reducible rfl
      rotate_left
      ·simp only [Act.put, List.setIfInBounds_toArray, List.set_cons_zero, List.set_cons_succ, i64_w, i32_w]
       rfl
      refine one_ (i := 4) (N := some 33) #[true, true, true, true, true, false, true, true, false, false] rfl rfl (one_of HT_.out (by kernel_rfl)) (by decide) (fun K hK => ?_)
      refine goes_ Try.func10 (by kernel_rfl) rfl #[.agg #[.int .u32 t382, .int .u32 t383, .int .u64 t384, .int .u64 t385, .int .u64 t386, .int .u64 t387, .int .u64 t388, .int .u64 t389, .int .u64 t390]] (by rfl) rfl rfl (by (try simp only [List.map_toArray, List.map_cons, List.map_nil]); first | done | rfl | (simp only [List.length_drop, List.length_take]; rfl)) ?_
      with_reducible refine (data_Bytes.calls kj5 t382 t383 t384 t385 t386 t387 t388 t389 t390 t393 _ A26.out).mono ?_
      rintro e w58 ⟨v394, rfl, ho0, hb⟩
      refine ⟨_, rfl, ?_⟩
      have n0_ := Aside0.mk (Kd.R_lower ho0 (below_size (by repeat (first | (with_reducible first | exact HB.out | apply below_alloc | apply pw_below_drewN | apply below_drew1 | refine below_set ?_ GE366.out | refine below_set ?_ GE381.out | refine below_set ?_ GE392.out) | exact HB.out))))
      have n1_ := Aside0.mk (blk_below (g := gb366) (o := .cells #[.int .u32 a0_0, .int .u32 a0_1, .int .u64 a0_2, .int .u64 a0_3, .int .u64 a0_4, .int .u64 a0_5, .int .u64 a0_6, .int .u64 a0_7, .int .u64 a0_8] 26 (0, 0)) (by (with_reducible repeat (first | refine blk_drewN ?_ _ | refine blk_drew ?_ | refine blk_alloc ?_ _)); exact BK366.out) hb)
      have n2_ := Aside0.mk (blk_below (g := gb381) (o := .cells #[.int .u32 t371, .int .u32 t372, .int .u64 t373, .int .u64 t374, .int .u64 t375, .int .u64 t376, .int .u64 t377, .int .u64 t378, .int .u64 t379] 26 (0, 0)) (by (with_reducible repeat (first | refine blk_drewN ?_ _ | refine blk_drew ?_ | refine blk_alloc ?_ _)); exact BK381.out) hb)
      have n3_ := Aside0.mk (blk_below (g := gb392) (o := .cells #[.int .u32 t382, .int .u32 t383, .int .u64 t384, .int .u64 t385, .int .u64 t386, .int .u64 t387, .int .u64 t388, .int .u64 t389, .int .u64 t390] 26 (0, 0)) (by (with_reducible repeat (first | refine blk_drewN ?_ _ | refine blk_drew ?_ | refine blk_alloc ?_ _)); exact BK392.out) hb)
      have n4_ := Aside0.mk (below_step (by repeat (first | (with_reducible first | exact HB.out | apply below_alloc | apply pw_below_drewN | apply below_drew1 | refine below_set ?_ GE366.out | refine below_set ?_ GE381.out | refine below_set ?_ GE392.out) | exact HB.out)) hb)
      clear BK366
      clear BK381
      clear BK392
      clear HB
      have HO395 := n0_
      have BK366 := n1_
      have BK381 := n2_
      have BK392 := n3_
      have HB := n4_
      clear n0_ n1_ n2_ n3_ n4_
      (try clear hb)
      (try clear hb2)
      (try clear hk)
      (try clear hi)
      (try clear ho0)
      have hcv60 := Kd.C_string (P := Try.prog) (A := A1) (c := c1) Try.underlying28 Try.underlying5 Try.underlying9 (Kd.C_below HR1.out HB.out)
      refine hK.out _ _ ⟨(blk_cell BK392.out 0).trans rfl, (blk_cell BK392.out 1).trans rfl, (blk_cell BK392.out 2).trans rfl, (blk_cell BK392.out 3).trans rfl, (blk_cell BK392.out 4).trans rfl, (blk_cell BK392.out 5).trans rfl, (blk_cell BK392.out 6).trans rfl, (blk_cell BK392.out 7).trans rfl, (blk_cell BK392.out 8).trans rfl, (by exact HB.out)⟩ (fun hHeld => ?_)
      clear hK K
      refine norm_ (a' := ?_) ?_ ?_
      rotate_left
      ·show Act.put _ (some 33) _ = _
       simp only [Act.put, List.setIfInBounds_toArray, List.set_cons_zero, List.set_cons_succ, i64_w, i32_w]
       rfl
      refine one_ (i := 5) (N := some 34) #[true, true, true, true, true, true, true, true, false, false] rfl rfl (one_of HT_.out (by kernel_rfl)) (by decide) (fun K hK => ?_)
      have hcv59 := own_string (P := Try.prog) Try.underlying28 Try.underlying5 Try.underlying9 (Kd.own_of_R HO395.out)
      refine value_ (w1 := ?_) (v := ?_) (by rfl) rfl ?_ ?_
      rotate_left 2
      ·go_simp
       constructor
       ·rfl
       ·rfl
      clear hcv59
      refine hK.out _ _ ⟨(blk_cell BK392.out 0).trans rfl, (blk_cell BK392.out 1).trans rfl, (blk_cell BK392.out 2).trans rfl, (blk_cell BK392.out 3).trans rfl, (blk_cell BK392.out 4).trans rfl, (blk_cell BK392.out 5).trans rfl, (blk_cell BK392.out 6).trans rfl, (blk_cell BK392.out 7).trans rfl, (blk_cell BK392.out 8).trans rfl, (by exact HB.out)⟩ (fun hHeld => ?_)
      clear hK K
      refine norm_ (a' := ?_) ?_ ?_
      rotate_left
      ·show Act.put _ (some 34) _ = _
       simp only [Act.put, List.setIfInBounds_toArray, List.set_cons_zero, List.set_cons_succ, i64_w, i32_w]
       rfl
      refine pure_ (i := 8) (N := some 37) (v := ?_) (a' := ?_) #[true, true, true, true, true, true, true, true, true, false] rfl rfl (any_of HT_.out (by kernel_rfl)) (fun _ _ _ h => h) (Or.inl ⟨by rfl, ?_⟩) ?_ ?_
      rotate_left
      ·intro w'
       go_simp
       with_reducible rfl
      rotate_left
      ·simp only [Act.put, List.setIfInBounds_toArray, List.set_cons_zero, List.set_cons_succ, i64_w, i32_w]
       rfl
      refine pure_ (i := 9) (N := some 38) (v := ?_) (a' := ?_) #[true, true, true, true, true, true, true, true, true, true] rfl rfl (any_of HT_.out (by kernel_rfl)) (fun _ _ _ h => h) (Or.inl ⟨by rfl, ?_⟩) ?_ ?_
      rotate_left
      ·intro w'
       go_simp
       with_reducible rfl
      rotate_left
      ·simp only [Act.put, List.setIfInBounds_toArray, List.set_cons_zero, List.set_cons_succ, i64_w, i32_w]
       rfl
      refine done_ (done_of HT_.out (by kernel_rfl)) ?_
      try go_wp2
      go_ret
      exact ⟨by first | rfl | (simp [errW_none, errW_some] <;> rfl) | (simp [*, errW_none, errW_some] <;> rfl), by repeat (first | (with_reducible first | exact HB.out | apply below_alloc | apply pw_below_drewN | apply below_drew1 | refine below_set ?_ GE366.out | refine below_set ?_ GE381.out | refine below_set ?_ GE392.out) | exact HB.out)⟩
    ·rw [if_neg c25] at H
     have c25b0 : (t391 == 0) = false := beq_eq_false_iff_ne.mpr c25
     have c25b1 : (t391 != 0) = true := bne_iff_ne.mpr c25
     by_cases c62 : t367 = true
     ·subst c62
      have H1 : (some ((t391 == 0) == ((l1.length : Int) == 64))) = some r := by rw [if_pos rfl] at H; exact H
      clear H
      have H := H1
      clear H1
      obtain rfl := Option.some.inj H
      try go_wp2_with (first | ((with_reducible refine gate_callee (f := 15) rfl ?_); refine goesL_ (some 26) rfl rfl Try.func15 (by kernel_rfl) rfl #[.slice A1 l1.length c1] rfl (by (try simp only [List.map_toArray, List.map_cons, List.map_nil]); first | done | rfl | (simp only [List.length_drop, List.length_take]; rfl)) ?_; (with_reducible refine (data_Of.calls kj5 _ _ l1 t382 t383 t384 t385 t386 t387 t388 t389 t390 t391 _ ?side1 ?side2 A24.out).mono ?_); (case side1 => repeat (first | exact (Kd.C_below HR1.out HB.out) | (with_reducible refine Kd.C_alloc ?_ _) | (with_reducible refine Kd.C_drewN ?_ _) | (with_reducible refine Kd.C_drew ?_))); (case side2 => exact HC1.out); rintro e w63 ⟨rfl, hb⟩; refine ⟨_, rfl, ?_⟩; have n0_ := Aside0.mk (blk_below (g := gb366) (o := .cells #[.int .u32 a0_0, .int .u32 a0_1, .int .u64 a0_2, .int .u64 a0_3, .int .u64 a0_4, .int .u64 a0_5, .int .u64 a0_6, .int .u64 a0_7, .int .u64 a0_8] 26 (0, 0)) (by (with_reducible repeat (first | refine blk_drewN ?_ _ | refine blk_drew ?_ | refine blk_alloc ?_ _)); exact BK366.out) hb); have n1_ := Aside0.mk (blk_below (g := gb381) (o := .cells #[.int .u32 t371, .int .u32 t372, .int .u64 t373, .int .u64 t374, .int .u64 t375, .int .u64 t376, .int .u64 t377, .int .u64 t378, .int .u64 t379] 26 (0, 0)) (by (with_reducible repeat (first | refine blk_drewN ?_ _ | refine blk_drew ?_ | refine blk_alloc ?_ _)); exact BK381.out) hb); have n2_ := Aside0.mk (below_step (by repeat (first | (with_reducible first | exact HB.out | apply below_alloc | apply pw_below_drewN | apply below_drew1 | refine below_set ?_ GE366.out | refine below_set ?_ GE381.out) | exact HB.out)) hb); clear BK366; clear BK381; clear HB; have BK366 := n0_; have BK381 := n1_; have HB := n2_; clear n0_ n1_ n2_; (try clear hb); (try clear hb2); (try clear hk); (try clear hi)) | ((with_reducible refine gate_dst (N := 8) rfl ?_); (try (refine gate_guard (by rfl) ?_; dsimp only)); refine box_event ?hg (N := 8) ?hd (cs := #[.int .u32 0, .int .u32 0, .int .u64 0, .int .u64 0, .int .u64 0, .int .u64 0, .int .u64 0, .int .u64 0, .int .u64 0]) (t := 26) ?hr ?_; (case hd => rfl); (case hg => rfl); (case hr => first | (go_simp; done) | (go_simp; rfl)); intro gb392 hg w64 hbox hb; have n0_ := Aside0.mk (blk_below (g := gb366) (o := .cells #[.int .u32 a0_0, .int .u32 a0_1, .int .u64 a0_2, .int .u64 a0_3, .int .u64 a0_4, .int .u64 a0_5, .int .u64 a0_6, .int .u64 a0_7, .int .u64 a0_8] 26 (0, 0)) (by (with_reducible repeat (first | refine blk_drewN ?_ _ | refine blk_drew ?_ | refine blk_alloc ?_ _)); exact BK366.out) hb); have n1_ := Aside0.mk (blk_below (g := gb381) (o := .cells #[.int .u32 t371, .int .u32 t372, .int .u64 t373, .int .u64 t374, .int .u64 t375, .int .u64 t376, .int .u64 t377, .int .u64 t378, .int .u64 t379] 26 (0, 0)) (by (with_reducible repeat (first | refine blk_drewN ?_ _ | refine blk_drew ?_ | refine blk_alloc ?_ _)); exact BK381.out) hb); have n2_ := Aside0.mk (below_step (by repeat (first | (with_reducible first | exact HB.out | apply below_alloc | apply pw_below_drewN | apply below_drew1 | refine below_set ?_ GE366.out | refine below_set ?_ GE381.out) | exact HB.out)) hb); have n3_ := Aside0.mk (hbox); have n4_ := Aside0.mk ((by rw [hg]; exact (below_size (by repeat (first | (with_reducible first | exact HB.out | apply below_alloc | apply pw_below_drewN | apply below_drew1 | refine below_set ?_ GE366.out | refine below_set ?_ GE381.out) | exact HB.out))) : w.heap.size ≤ gb392)); have n5_ := Aside0.mk ((by rw [hg]; exact (below_size (by repeat (first | (with_reducible first | exact HB.out | apply below_alloc | apply pw_below_drewN | apply below_drew1 | refine below_set ?_ GE366.out | refine below_set ?_ GE381.out) | exact HB.out))) : w.heap.size ≤ gb392)); have n6_ := Aside0.mk ((by rw [hg]; exact Nat.ne_of_lt (blk_lt (g := gb366) (o := .cells #[.int .u32 a0_0, .int .u32 a0_1, .int .u64 a0_2, .int .u64 a0_3, .int .u64 a0_4, .int .u64 a0_5, .int .u64 a0_6, .int .u64 a0_7, .int .u64 a0_8] 26 (0, 0)) (by (with_reducible repeat (first | refine blk_drewN ?_ _ | refine blk_drew ?_ | refine blk_alloc ?_ _)); exact BK366.out)) : gb366 ≠ gb392)); have n7_ := Aside0.mk ((by rw [hg]; exact Nat.ne_of_gt (blk_lt (g := gb366) (o := .cells #[.int .u32 a0_0, .int .u32 a0_1, .int .u64 a0_2, .int .u64 a0_3, .int .u64 a0_4, .int .u64 a0_5, .int .u64 a0_6, .int .u64 a0_7, .int .u64 a0_8] 26 (0, 0)) (by (with_reducible repeat (first | refine blk_drewN ?_ _ | refine blk_drew ?_ | refine blk_alloc ?_ _)); exact BK366.out)) : gb392 ≠ gb366)); have n8_ := Aside0.mk ((by rw [hg]; exact Nat.ne_of_lt (blk_lt (g := gb381) (o := .cells #[.int .u32 t371, .int .u32 t372, .int .u64 t373, .int .u64 t374, .int .u64 t375, .int .u64 t376, .int .u64 t377, .int .u64 t378, .int .u64 t379] 26 (0, 0)) (by (with_reducible repeat (first | refine blk_drewN ?_ _ | refine blk_drew ?_ | refine blk_alloc ?_ _)); exact BK381.out)) : gb381 ≠ gb392)); have n9_ := Aside0.mk ((by rw [hg]; exact Nat.ne_of_gt (blk_lt (g := gb381) (o := .cells #[.int .u32 t371, .int .u32 t372, .int .u64 t373, .int .u64 t374, .int .u64 t375, .int .u64 t376, .int .u64 t377, .int .u64 t378, .int .u64 t379] 26 (0, 0)) (by (with_reducible repeat (first | refine blk_drewN ?_ _ | refine blk_drew ?_ | refine blk_alloc ?_ _)); exact BK381.out)) : gb392 ≠ gb381)); clear BK366; clear BK381; clear HB; have BK366 := n0_; have BK381 := n1_; have HB := n2_; have BK392 := n3_; have GW392 := n4_; have GE392 := n5_; have NB366_392 := n6_; have NB392_366 := n7_; have NB381_392 := n8_; have NB392_381 := n9_; clear n0_ n1_ n2_ n3_ n4_ n5_ n6_ n7_ n8_ n9_; clear hb hbox hg; have hnb65 := NB392_366.out; have hnc65 := NB366_392.out; have hnb66 := NB392_381.out; have hnc66 := NB381_392.out; have hcz67_0 : w64.cell? ⟨gb392, 0, none⟩ = some (.int .u32 0) := (blk_cell BK392.out 0).trans rfl; have hcz67_1 : w64.cell? ⟨gb392, 1, none⟩ = some (.int .u32 0) := (blk_cell BK392.out 1).trans rfl; have hcz67_2 : w64.cell? ⟨gb392, 2, none⟩ = some (.int .u64 0) := (blk_cell BK392.out 2).trans rfl; have hcz67_3 : w64.cell? ⟨gb392, 3, none⟩ = some (.int .u64 0) := (blk_cell BK392.out 3).trans rfl; have hcz67_4 : w64.cell? ⟨gb392, 4, none⟩ = some (.int .u64 0) := (blk_cell BK392.out 4).trans rfl; have hcz67_5 : w64.cell? ⟨gb392, 5, none⟩ = some (.int .u64 0) := (blk_cell BK392.out 5).trans rfl; have hcz67_6 : w64.cell? ⟨gb392, 6, none⟩ = some (.int .u64 0) := (blk_cell BK392.out 6).trans rfl; have hcz67_7 : w64.cell? ⟨gb392, 7, none⟩ = some (.int .u64 0) := (blk_cell BK392.out 7).trans rfl; have hcz67_8 : w64.cell? ⟨gb392, 8, none⟩ = some (.int .u64 0) := (blk_cell BK392.out 8).trans rfl; have hfz67_0 := blk_frozen BK392.out 0; have hfz67_1 := blk_frozen BK392.out 1; have hfz67_2 := blk_frozen BK392.out 2; have hfz67_3 := blk_frozen BK392.out 3; have hfz67_4 := blk_frozen BK392.out 4; have hfz67_5 := blk_frozen BK392.out 5; have hfz67_6 := blk_frozen BK392.out 6; have hfz67_7 := blk_frozen BK392.out 7; have hfz67_8 := blk_frozen BK392.out 8))
      have n0_ : Aside0 ((((((((((w64.setCell ⟨gb392, 0, none⟩ (.int .u32 t382)).setCell ⟨gb392, 1, none⟩ (.int .u32 t383)).setCell ⟨gb392, 2, none⟩ (.int .u64 t384)).setCell ⟨gb392, 3, none⟩ (.int .u64 t385)).setCell ⟨gb392, 4, none⟩ (.int .u64 t386)).setCell ⟨gb392, 5, none⟩ (.int .u64 t387)).setCell ⟨gb392, 6, none⟩ (.int .u64 t388)).setCell ⟨gb392, 7, none⟩ (.int .u64 t389)).setCell ⟨gb392, 8, none⟩ (.int .u64 t390)).heap[gb366]? = some (.cells #[.int .u32 a0_0, .int .u32 a0_1, .int .u64 a0_2, .int .u64 a0_3, .int .u64 a0_4, .int .u64 a0_5, .int .u64 a0_6, .int .u64 a0_7, .int .u64 a0_8] 26 (0, 0))) := ⟨by (with_reducible repeat (first | refine blk_drewN ?_ _ | refine blk_drew ?_ | refine blk_alloc ?_ _)); refine blk_far ?_ NB366_392.out _; (with_reducible repeat (first | refine blk_drewN ?_ _ | refine blk_drew ?_ | refine blk_alloc ?_ _)); refine blk_far ?_ NB366_392.out _; (with_reducible repeat (first | refine blk_drewN ?_ _ | refine blk_drew ?_ | refine blk_alloc ?_ _)); refine blk_far ?_ NB366_392.out _; (with_reducible repeat (first | refine blk_drewN ?_ _ | refine blk_drew ?_ | refine blk_alloc ?_ _)); refine blk_far ?_ NB366_392.out _; (with_reducible repeat (first | refine blk_drewN ?_ _ | refine blk_drew ?_ | refine blk_alloc ?_ _)); refine blk_far ?_ NB366_392.out _; (with_reducible repeat (first | refine blk_drewN ?_ _ | refine blk_drew ?_ | refine blk_alloc ?_ _)); refine blk_far ?_ NB366_392.out _; (with_reducible repeat (first | refine blk_drewN ?_ _ | refine blk_drew ?_ | refine blk_alloc ?_ _)); refine blk_far ?_ NB366_392.out _; (with_reducible repeat (first | refine blk_drewN ?_ _ | refine blk_drew ?_ | refine blk_alloc ?_ _)); refine blk_far ?_ NB366_392.out _; (with_reducible repeat (first | refine blk_drewN ?_ _ | refine blk_drew ?_ | refine blk_alloc ?_ _)); refine blk_far ?_ NB366_392.out _; (with_reducible repeat (first | refine blk_drewN ?_ _ | refine blk_drew ?_ | refine blk_alloc ?_ _)); exact BK366.out⟩
      have n1_ : Aside0 ((((((((((w64.setCell ⟨gb392, 0, none⟩ (.int .u32 t382)).setCell ⟨gb392, 1, none⟩ (.int .u32 t383)).setCell ⟨gb392, 2, none⟩ (.int .u64 t384)).setCell ⟨gb392, 3, none⟩ (.int .u64 t385)).setCell ⟨gb392, 4, none⟩ (.int .u64 t386)).setCell ⟨gb392, 5, none⟩ (.int .u64 t387)).setCell ⟨gb392, 6, none⟩ (.int .u64 t388)).setCell ⟨gb392, 7, none⟩ (.int .u64 t389)).setCell ⟨gb392, 8, none⟩ (.int .u64 t390)).heap[gb381]? = some (.cells #[.int .u32 t371, .int .u32 t372, .int .u64 t373, .int .u64 t374, .int .u64 t375, .int .u64 t376, .int .u64 t377, .int .u64 t378, .int .u64 t379] 26 (0, 0))) := ⟨by (with_reducible repeat (first | refine blk_drewN ?_ _ | refine blk_drew ?_ | refine blk_alloc ?_ _)); refine blk_far ?_ NB381_392.out _; (with_reducible repeat (first | refine blk_drewN ?_ _ | refine blk_drew ?_ | refine blk_alloc ?_ _)); refine blk_far ?_ NB381_392.out _; (with_reducible repeat (first | refine blk_drewN ?_ _ | refine blk_drew ?_ | refine blk_alloc ?_ _)); refine blk_far ?_ NB381_392.out _; (with_reducible repeat (first | refine blk_drewN ?_ _ | refine blk_drew ?_ | refine blk_alloc ?_ _)); refine blk_far ?_ NB381_392.out _; (with_reducible repeat (first | refine blk_drewN ?_ _ | refine blk_drew ?_ | refine blk_alloc ?_ _)); refine blk_far ?_ NB381_392.out _; (with_reducible repeat (first | refine blk_drewN ?_ _ | refine blk_drew ?_ | refine blk_alloc ?_ _)); refine blk_far ?_ NB381_392.out _; (with_reducible repeat (first | refine blk_drewN ?_ _ | refine blk_drew ?_ | refine blk_alloc ?_ _)); refine blk_far ?_ NB381_392.out _; (with_reducible repeat (first | refine blk_drewN ?_ _ | refine blk_drew ?_ | refine blk_alloc ?_ _)); refine blk_far ?_ NB381_392.out _; (with_reducible repeat (first | refine blk_drewN ?_ _ | refine blk_drew ?_ | refine blk_alloc ?_ _)); refine blk_far ?_ NB381_392.out _; (with_reducible repeat (first | refine blk_drewN ?_ _ | refine blk_drew ?_ | refine blk_alloc ?_ _)); exact BK381.out⟩
      have n2_ : Aside0 ((((((((((w64.setCell ⟨gb392, 0, none⟩ (.int .u32 t382)).setCell ⟨gb392, 1, none⟩ (.int .u32 t383)).setCell ⟨gb392, 2, none⟩ (.int .u64 t384)).setCell ⟨gb392, 3, none⟩ (.int .u64 t385)).setCell ⟨gb392, 4, none⟩ (.int .u64 t386)).setCell ⟨gb392, 5, none⟩ (.int .u64 t387)).setCell ⟨gb392, 6, none⟩ (.int .u64 t388)).setCell ⟨gb392, 7, none⟩ (.int .u64 t389)).setCell ⟨gb392, 8, none⟩ (.int .u64 t390)).heap[gb392]? = some (.cells #[.int .u32 t382, .int .u32 t383, .int .u64 t384, .int .u64 t385, .int .u64 t386, .int .u64 t387, .int .u64 t388, .int .u64 t389, .int .u64 t390] 26 (0, 0))) := ⟨by (with_reducible repeat (first | refine blk_drewN ?_ _ | refine blk_drew ?_ | refine blk_alloc ?_ _)); refine blk_put (cs := #[.int .u32 t382, .int .u32 t383, .int .u64 t384, .int .u64 t385, .int .u64 t386, .int .u64 t387, .int .u64 t388, .int .u64 t389, .int .u64 0]) ?_ 8 _ rfl; (with_reducible repeat (first | refine blk_drewN ?_ _ | refine blk_drew ?_ | refine blk_alloc ?_ _)); refine blk_put (cs := #[.int .u32 t382, .int .u32 t383, .int .u64 t384, .int .u64 t385, .int .u64 t386, .int .u64 t387, .int .u64 t388, .int .u64 0, .int .u64 0]) ?_ 7 _ rfl; (with_reducible repeat (first | refine blk_drewN ?_ _ | refine blk_drew ?_ | refine blk_alloc ?_ _)); refine blk_put (cs := #[.int .u32 t382, .int .u32 t383, .int .u64 t384, .int .u64 t385, .int .u64 t386, .int .u64 t387, .int .u64 0, .int .u64 0, .int .u64 0]) ?_ 6 _ rfl; (with_reducible repeat (first | refine blk_drewN ?_ _ | refine blk_drew ?_ | refine blk_alloc ?_ _)); refine blk_put (cs := #[.int .u32 t382, .int .u32 t383, .int .u64 t384, .int .u64 t385, .int .u64 t386, .int .u64 0, .int .u64 0, .int .u64 0, .int .u64 0]) ?_ 5 _ rfl; (with_reducible repeat (first | refine blk_drewN ?_ _ | refine blk_drew ?_ | refine blk_alloc ?_ _)); refine blk_put (cs := #[.int .u32 t382, .int .u32 t383, .int .u64 t384, .int .u64 t385, .int .u64 0, .int .u64 0, .int .u64 0, .int .u64 0, .int .u64 0]) ?_ 4 _ rfl; (with_reducible repeat (first | refine blk_drewN ?_ _ | refine blk_drew ?_ | refine blk_alloc ?_ _)); refine blk_put (cs := #[.int .u32 t382, .int .u32 t383, .int .u64 t384, .int .u64 0, .int .u64 0, .int .u64 0, .int .u64 0, .int .u64 0, .int .u64 0]) ?_ 3 _ rfl; (with_reducible repeat (first | refine blk_drewN ?_ _ | refine blk_drew ?_ | refine blk_alloc ?_ _)); refine blk_put (cs := #[.int .u32 t382, .int .u32 t383, .int .u64 0, .int .u64 0, .int .u64 0, .int .u64 0, .int .u64 0, .int .u64 0, .int .u64 0]) ?_ 2 _ rfl; (with_reducible repeat (first | refine blk_drewN ?_ _ | refine blk_drew ?_ | refine blk_alloc ?_ _)); refine blk_put (cs := #[.int .u32 t382, .int .u32 0, .int .u64 0, .int .u64 0, .int .u64 0, .int .u64 0, .int .u64 0, .int .u64 0, .int .u64 0]) ?_ 1 _ rfl; (with_reducible repeat (first | refine blk_drewN ?_ _ | refine blk_drew ?_ | refine blk_alloc ?_ _)); refine blk_put (cs := #[.int .u32 0, .int .u32 0, .int .u64 0, .int .u64 0, .int .u64 0, .int .u64 0, .int .u64 0, .int .u64 0, .int .u64 0]) ?_ 0 _ rfl; (with_reducible repeat (first | refine blk_drewN ?_ _ | refine blk_drew ?_ | refine blk_alloc ?_ _)); exact BK392.out⟩
      have n3_ : Aside0 (Below w.heap.size w (((((((((w64.setCell ⟨gb392, 0, none⟩ (.int .u32 t382)).setCell ⟨gb392, 1, none⟩ (.int .u32 t383)).setCell ⟨gb392, 2, none⟩ (.int .u64 t384)).setCell ⟨gb392, 3, none⟩ (.int .u64 t385)).setCell ⟨gb392, 4, none⟩ (.int .u64 t386)).setCell ⟨gb392, 5, none⟩ (.int .u64 t387)).setCell ⟨gb392, 6, none⟩ (.int .u64 t388)).setCell ⟨gb392, 7, none⟩ (.int .u64 t389)).setCell ⟨gb392, 8, none⟩ (.int .u64 t390))) := ⟨by repeat (first | (with_reducible first | exact HB.out | apply below_alloc | apply pw_below_drewN | apply below_drew1 | refine below_set ?_ GE366.out | refine below_set ?_ GE381.out | refine below_set ?_ GE392.out) | exact HB.out)⟩
      (try clear BK366)
      (try clear BK381)
      (try clear BK392)
      (try clear HB)
      generalize (((((((((w64.setCell ⟨gb392, 0, none⟩ (.int .u32 t382)).setCell ⟨gb392, 1, none⟩ (.int .u32 t383)).setCell ⟨gb392, 2, none⟩ (.int .u64 t384)).setCell ⟨gb392, 3, none⟩ (.int .u64 t385)).setCell ⟨gb392, 4, none⟩ (.int .u64 t386)).setCell ⟨gb392, 5, none⟩ (.int .u64 t387)).setCell ⟨gb392, 6, none⟩ (.int .u64 t388)).setCell ⟨gb392, 7, none⟩ (.int .u64 t389)).setCell ⟨gb392, 8, none⟩ (.int .u64 t390)) = w68 at n0_ n1_ n2_ n3_ ⊢
      have BK366 := n0_
      have BK381 := n1_
      have BK392 := n2_
      have HB := n3_
      clear n0_ n1_ n2_ n3_
      have n0_ := Aside0.mk (blk_drew BK366.out)
      have n1_ := Aside0.mk (blk_drew BK381.out)
      have n2_ := Aside0.mk (blk_drew BK392.out)
      have n3_ := Aside0.mk (below_drew1 HB.out)
      clear BK366
      clear BK381
      clear BK392
      clear HB
      have BK366 := n0_
      have BK381 := n1_
      have BK392 := n2_
      have HB := n3_
      clear n0_ n1_ n2_ n3_
      refine start_ (n := 10) (S := fun w' => Below w.heap.size w w') (ds := []) #[false, false, false, false, false, false, false, false, false, false] (by kernel_rfl) rfl rfl (by exact HB.out) (fun hHeld => ?_); refine with_tabW fairleadlaw04_DataBack.tab6 fairleadlaw04_DataBack.bits6 (fun HT_ HW_ => ?_)
      generalize w68.drew = w69 at BK366 BK381 BK392 HB hHeld ⊢
      refine pure_ (i := 0) (N := some 29) (v := ?_) (a' := ?_) #[true, false, false, false, false, false, false, false, false, false] rfl rfl (any_of HT_.out (by kernel_rfl)) (fun _ _ _ h => h) (Or.inl ⟨by rfl, ?_⟩) ?_ ?_
      rotate_left
      ·intro w'
       go_simp
       with_reducible rfl
      rotate_left
      ·simp only [Act.put, List.setIfInBounds_toArray, List.set_cons_zero, List.set_cons_succ, i64_w, i32_w]
       rfl
      refine pure_ (i := 1) (N := some 30) (v := ?_) (a' := ?_) #[true, true, false, false, false, false, false, false, false, false] rfl rfl (any_of HT_.out (by kernel_rfl)) (fun _ _ _ h => h) (Or.inl ⟨by rfl, ?_⟩) ?_ ?_
      rotate_left
      ·intro w'
       go_simp
       with_reducible rfl
      rotate_left
      ·simp only [Act.put, List.setIfInBounds_toArray, List.set_cons_zero, List.set_cons_succ, i64_w, i32_w]
       rfl
      refine pure_ (i := 2) (N := some 31) (v := ?_) (a' := ?_) #[true, true, true, false, false, false, false, false, false, false] rfl rfl (any_of HT_.out (by kernel_rfl)) (fun _ _ _ h => h) (Or.inl ⟨by rfl, ?_⟩) ?_ ?_
      rotate_left
      ·intro w'
       go_simp
       with_reducible rfl
      rotate_left
      ·simp only [Act.put, List.setIfInBounds_toArray, List.set_cons_zero, List.set_cons_succ, i64_w, i32_w]
       rfl
      refine pure_ (i := 3) (N := some 32) (v := undef) (a' := ?_) #[true, true, true, true, false, false, false, false, false, false] rfl rfl (any_of HT_.out (by kernel_rfl)) (fun _ _ _ h => h) (Or.inr ⟨by rfl, rfl⟩) ?_ ?_
      rotate_left
      ·simp only [Act.put, List.setIfInBounds_toArray, List.set_cons_zero, List.set_cons_succ, i64_w, i32_w]
       rfl
      refine pure_ (i := 4) (N := some 33) (v := undef) (a' := ?_) #[true, true, true, true, true, false, false, false, false, false] rfl rfl (any_of HT_.out (by kernel_rfl)) (fun _ _ _ h => h) (Or.inr ⟨by rfl, rfl⟩) ?_ ?_
      rotate_left
      ·simp only [Act.put, List.setIfInBounds_toArray, List.set_cons_zero, List.set_cons_succ, i64_w, i32_w]
       rfl
      refine pure_ (i := 5) (N := some 34) (v := undef) (a' := ?_) #[true, true, true, true, true, true, false, false, false, false] rfl rfl (any_of HT_.out (by kernel_rfl)) (fun _ _ _ h => h) (Or.inr ⟨by rfl, rfl⟩) ?_ ?_
      rotate_left
      ·simp only [Act.put, List.setIfInBounds_toArray, List.set_cons_zero, List.set_cons_succ, i64_w, i32_w]
       rfl
      refine pure_ (i := 6) (N := some 35) (v := undef) (a' := ?_) #[true, true, true, true, true, true, true, false, false, false] rfl rfl (any_of HT_.out (by kernel_rfl)) (fun _ _ _ h => h) (Or.inr ⟨by rfl, rfl⟩) ?_ ?_
      rotate_left
      ·simp only [Act.put, List.setIfInBounds_toArray, List.set_cons_zero, List.set_cons_succ, i64_w, i32_w]
       rfl
      refine pure_ (i := 7) (N := some 36) (v := undef) (a' := ?_) #[true, true, true, true, true, true, true, true, false, false] rfl rfl (any_of HT_.out (by kernel_rfl)) (fun _ _ _ h => h) (Or.inr ⟨by rfl, rfl⟩) ?_ ?_
      rotate_left
      ·simp only [Act.put, List.setIfInBounds_toArray, List.set_cons_zero, List.set_cons_succ, i64_w, i32_w]
       rfl
      refine pure_ (i := 8) (N := some 37) (v := undef) (a' := ?_) #[true, true, true, true, true, true, true, true, true, false] rfl rfl (any_of HT_.out (by kernel_rfl)) (fun _ _ _ h => h) (Or.inr ⟨by rfl, rfl⟩) ?_ ?_
      rotate_left
      ·simp only [Act.put, List.setIfInBounds_toArray, List.set_cons_zero, List.set_cons_succ, i64_w, i32_w]
       rfl
      refine pure_ (i := 9) (N := some 38) (v := ?_) (a' := ?_) #[true, true, true, true, true, true, true, true, true, true] rfl rfl (any_of HT_.out (by kernel_rfl)) (fun _ _ _ h => h) (Or.inl ⟨by rfl, ?_⟩) ?_ ?_
      rotate_left
      ·intro w'
       go_simp
       with_reducible rfl
      rotate_left
      ·simp only [Act.put, List.setIfInBounds_toArray, List.set_cons_zero, List.set_cons_succ, i64_w, i32_w]
       rfl
      refine done_ (done_of HT_.out (by kernel_rfl)) ?_
      try go_wp2
      go_ret
      exact ⟨by first | rfl | (simp [errW_none, errW_some] <;> rfl) | (simp [*, errW_none, errW_some] <;> rfl), by repeat (first | (with_reducible first | exact HB.out | apply below_alloc | apply pw_below_drewN | apply below_drew1 | refine below_set ?_ GE366.out | refine below_set ?_ GE381.out | refine below_set ?_ GE392.out) | exact HB.out)⟩
     ·replace c62 := Bool.eq_false_iff.mpr c62
      subst c62
      have H1 : (some false) = some r := by rw [if_neg (show ¬ (false = true) by decide)] at H; exact H
      clear H
      have H := H1
      clear H1
      obtain rfl := Option.some.inj H
      try go_wp2_with (first | ((with_reducible refine gate_callee (f := 15) rfl ?_); refine goesL_ (some 26) rfl rfl Try.func15 (by kernel_rfl) rfl #[.slice A1 l1.length c1] rfl (by (try simp only [List.map_toArray, List.map_cons, List.map_nil]); first | done | rfl | (simp only [List.length_drop, List.length_take]; rfl)) ?_; (with_reducible refine (data_Of.calls kj5 _ _ l1 t382 t383 t384 t385 t386 t387 t388 t389 t390 t391 _ ?side1 ?side2 A24.out).mono ?_); (case side1 => repeat (first | exact (Kd.C_below HR1.out HB.out) | (with_reducible refine Kd.C_alloc ?_ _) | (with_reducible refine Kd.C_drewN ?_ _) | (with_reducible refine Kd.C_drew ?_))); (case side2 => exact HC1.out); rintro e w70 ⟨rfl, hb⟩; refine ⟨_, rfl, ?_⟩; have n0_ := Aside0.mk (blk_below (g := gb366) (o := .cells #[.int .u32 a0_0, .int .u32 a0_1, .int .u64 a0_2, .int .u64 a0_3, .int .u64 a0_4, .int .u64 a0_5, .int .u64 a0_6, .int .u64 a0_7, .int .u64 a0_8] 26 (0, 0)) (by (with_reducible repeat (first | refine blk_drewN ?_ _ | refine blk_drew ?_ | refine blk_alloc ?_ _)); exact BK366.out) hb); have n1_ := Aside0.mk (blk_below (g := gb381) (o := .cells #[.int .u32 t371, .int .u32 t372, .int .u64 t373, .int .u64 t374, .int .u64 t375, .int .u64 t376, .int .u64 t377, .int .u64 t378, .int .u64 t379] 26 (0, 0)) (by (with_reducible repeat (first | refine blk_drewN ?_ _ | refine blk_drew ?_ | refine blk_alloc ?_ _)); exact BK381.out) hb); have n2_ := Aside0.mk (below_step (by repeat (first | (with_reducible first | exact HB.out | apply below_alloc | apply pw_below_drewN | apply below_drew1 | refine below_set ?_ GE366.out | refine below_set ?_ GE381.out) | exact HB.out)) hb); clear BK366; clear BK381; clear HB; have BK366 := n0_; have BK381 := n1_; have HB := n2_; clear n0_ n1_ n2_; (try clear hb); (try clear hb2); (try clear hk); (try clear hi)) | ((with_reducible refine gate_dst (N := 8) rfl ?_); (try (refine gate_guard (by rfl) ?_; dsimp only)); refine box_event ?hg (N := 8) ?hd (cs := #[.int .u32 0, .int .u32 0, .int .u64 0, .int .u64 0, .int .u64 0, .int .u64 0, .int .u64 0, .int .u64 0, .int .u64 0]) (t := 26) ?hr ?_; (case hd => rfl); (case hg => rfl); (case hr => first | (go_simp; done) | (go_simp; rfl)); intro gb392 hg w71 hbox hb; have n0_ := Aside0.mk (blk_below (g := gb366) (o := .cells #[.int .u32 a0_0, .int .u32 a0_1, .int .u64 a0_2, .int .u64 a0_3, .int .u64 a0_4, .int .u64 a0_5, .int .u64 a0_6, .int .u64 a0_7, .int .u64 a0_8] 26 (0, 0)) (by (with_reducible repeat (first | refine blk_drewN ?_ _ | refine blk_drew ?_ | refine blk_alloc ?_ _)); exact BK366.out) hb); have n1_ := Aside0.mk (blk_below (g := gb381) (o := .cells #[.int .u32 t371, .int .u32 t372, .int .u64 t373, .int .u64 t374, .int .u64 t375, .int .u64 t376, .int .u64 t377, .int .u64 t378, .int .u64 t379] 26 (0, 0)) (by (with_reducible repeat (first | refine blk_drewN ?_ _ | refine blk_drew ?_ | refine blk_alloc ?_ _)); exact BK381.out) hb); have n2_ := Aside0.mk (below_step (by repeat (first | (with_reducible first | exact HB.out | apply below_alloc | apply pw_below_drewN | apply below_drew1 | refine below_set ?_ GE366.out | refine below_set ?_ GE381.out) | exact HB.out)) hb); have n3_ := Aside0.mk (hbox); have n4_ := Aside0.mk ((by rw [hg]; exact (below_size (by repeat (first | (with_reducible first | exact HB.out | apply below_alloc | apply pw_below_drewN | apply below_drew1 | refine below_set ?_ GE366.out | refine below_set ?_ GE381.out) | exact HB.out))) : w.heap.size ≤ gb392)); have n5_ := Aside0.mk ((by rw [hg]; exact (below_size (by repeat (first | (with_reducible first | exact HB.out | apply below_alloc | apply pw_below_drewN | apply below_drew1 | refine below_set ?_ GE366.out | refine below_set ?_ GE381.out) | exact HB.out))) : w.heap.size ≤ gb392)); have n6_ := Aside0.mk ((by rw [hg]; exact Nat.ne_of_lt (blk_lt (g := gb366) (o := .cells #[.int .u32 a0_0, .int .u32 a0_1, .int .u64 a0_2, .int .u64 a0_3, .int .u64 a0_4, .int .u64 a0_5, .int .u64 a0_6, .int .u64 a0_7, .int .u64 a0_8] 26 (0, 0)) (by (with_reducible repeat (first | refine blk_drewN ?_ _ | refine blk_drew ?_ | refine blk_alloc ?_ _)); exact BK366.out)) : gb366 ≠ gb392)); have n7_ := Aside0.mk ((by rw [hg]; exact Nat.ne_of_gt (blk_lt (g := gb366) (o := .cells #[.int .u32 a0_0, .int .u32 a0_1, .int .u64 a0_2, .int .u64 a0_3, .int .u64 a0_4, .int .u64 a0_5, .int .u64 a0_6, .int .u64 a0_7, .int .u64 a0_8] 26 (0, 0)) (by (with_reducible repeat (first | refine blk_drewN ?_ _ | refine blk_drew ?_ | refine blk_alloc ?_ _)); exact BK366.out)) : gb392 ≠ gb366)); have n8_ := Aside0.mk ((by rw [hg]; exact Nat.ne_of_lt (blk_lt (g := gb381) (o := .cells #[.int .u32 t371, .int .u32 t372, .int .u64 t373, .int .u64 t374, .int .u64 t375, .int .u64 t376, .int .u64 t377, .int .u64 t378, .int .u64 t379] 26 (0, 0)) (by (with_reducible repeat (first | refine blk_drewN ?_ _ | refine blk_drew ?_ | refine blk_alloc ?_ _)); exact BK381.out)) : gb381 ≠ gb392)); have n9_ := Aside0.mk ((by rw [hg]; exact Nat.ne_of_gt (blk_lt (g := gb381) (o := .cells #[.int .u32 t371, .int .u32 t372, .int .u64 t373, .int .u64 t374, .int .u64 t375, .int .u64 t376, .int .u64 t377, .int .u64 t378, .int .u64 t379] 26 (0, 0)) (by (with_reducible repeat (first | refine blk_drewN ?_ _ | refine blk_drew ?_ | refine blk_alloc ?_ _)); exact BK381.out)) : gb392 ≠ gb381)); clear BK366; clear BK381; clear HB; have BK366 := n0_; have BK381 := n1_; have HB := n2_; have BK392 := n3_; have GW392 := n4_; have GE392 := n5_; have NB366_392 := n6_; have NB392_366 := n7_; have NB381_392 := n8_; have NB392_381 := n9_; clear n0_ n1_ n2_ n3_ n4_ n5_ n6_ n7_ n8_ n9_; clear hb hbox hg; have hnb72 := NB392_366.out; have hnc72 := NB366_392.out; have hnb73 := NB392_381.out; have hnc73 := NB381_392.out; have hcz74_0 : w71.cell? ⟨gb392, 0, none⟩ = some (.int .u32 0) := (blk_cell BK392.out 0).trans rfl; have hcz74_1 : w71.cell? ⟨gb392, 1, none⟩ = some (.int .u32 0) := (blk_cell BK392.out 1).trans rfl; have hcz74_2 : w71.cell? ⟨gb392, 2, none⟩ = some (.int .u64 0) := (blk_cell BK392.out 2).trans rfl; have hcz74_3 : w71.cell? ⟨gb392, 3, none⟩ = some (.int .u64 0) := (blk_cell BK392.out 3).trans rfl; have hcz74_4 : w71.cell? ⟨gb392, 4, none⟩ = some (.int .u64 0) := (blk_cell BK392.out 4).trans rfl; have hcz74_5 : w71.cell? ⟨gb392, 5, none⟩ = some (.int .u64 0) := (blk_cell BK392.out 5).trans rfl; have hcz74_6 : w71.cell? ⟨gb392, 6, none⟩ = some (.int .u64 0) := (blk_cell BK392.out 6).trans rfl; have hcz74_7 : w71.cell? ⟨gb392, 7, none⟩ = some (.int .u64 0) := (blk_cell BK392.out 7).trans rfl; have hcz74_8 : w71.cell? ⟨gb392, 8, none⟩ = some (.int .u64 0) := (blk_cell BK392.out 8).trans rfl; have hfz74_0 := blk_frozen BK392.out 0; have hfz74_1 := blk_frozen BK392.out 1; have hfz74_2 := blk_frozen BK392.out 2; have hfz74_3 := blk_frozen BK392.out 3; have hfz74_4 := blk_frozen BK392.out 4; have hfz74_5 := blk_frozen BK392.out 5; have hfz74_6 := blk_frozen BK392.out 6; have hfz74_7 := blk_frozen BK392.out 7; have hfz74_8 := blk_frozen BK392.out 8))
      have n0_ : Aside0 ((((((((((w71.setCell ⟨gb392, 0, none⟩ (.int .u32 t382)).setCell ⟨gb392, 1, none⟩ (.int .u32 t383)).setCell ⟨gb392, 2, none⟩ (.int .u64 t384)).setCell ⟨gb392, 3, none⟩ (.int .u64 t385)).setCell ⟨gb392, 4, none⟩ (.int .u64 t386)).setCell ⟨gb392, 5, none⟩ (.int .u64 t387)).setCell ⟨gb392, 6, none⟩ (.int .u64 t388)).setCell ⟨gb392, 7, none⟩ (.int .u64 t389)).setCell ⟨gb392, 8, none⟩ (.int .u64 t390)).heap[gb366]? = some (.cells #[.int .u32 a0_0, .int .u32 a0_1, .int .u64 a0_2, .int .u64 a0_3, .int .u64 a0_4, .int .u64 a0_5, .int .u64 a0_6, .int .u64 a0_7, .int .u64 a0_8] 26 (0, 0))) := ⟨by (with_reducible repeat (first | refine blk_drewN ?_ _ | refine blk_drew ?_ | refine blk_alloc ?_ _)); refine blk_far ?_ NB366_392.out _; (with_reducible repeat (first | refine blk_drewN ?_ _ | refine blk_drew ?_ | refine blk_alloc ?_ _)); refine blk_far ?_ NB366_392.out _; (with_reducible repeat (first | refine blk_drewN ?_ _ | refine blk_drew ?_ | refine blk_alloc ?_ _)); refine blk_far ?_ NB366_392.out _; (with_reducible repeat (first | refine blk_drewN ?_ _ | refine blk_drew ?_ | refine blk_alloc ?_ _)); refine blk_far ?_ NB366_392.out _; (with_reducible repeat (first | refine blk_drewN ?_ _ | refine blk_drew ?_ | refine blk_alloc ?_ _)); refine blk_far ?_ NB366_392.out _; (with_reducible repeat (first | refine blk_drewN ?_ _ | refine blk_drew ?_ | refine blk_alloc ?_ _)); refine blk_far ?_ NB366_392.out _; (with_reducible repeat (first | refine blk_drewN ?_ _ | refine blk_drew ?_ | refine blk_alloc ?_ _)); refine blk_far ?_ NB366_392.out _; (with_reducible repeat (first | refine blk_drewN ?_ _ | refine blk_drew ?_ | refine blk_alloc ?_ _)); refine blk_far ?_ NB366_392.out _; (with_reducible repeat (first | refine blk_drewN ?_ _ | refine blk_drew ?_ | refine blk_alloc ?_ _)); refine blk_far ?_ NB366_392.out _; (with_reducible repeat (first | refine blk_drewN ?_ _ | refine blk_drew ?_ | refine blk_alloc ?_ _)); exact BK366.out⟩
      have n1_ : Aside0 ((((((((((w71.setCell ⟨gb392, 0, none⟩ (.int .u32 t382)).setCell ⟨gb392, 1, none⟩ (.int .u32 t383)).setCell ⟨gb392, 2, none⟩ (.int .u64 t384)).setCell ⟨gb392, 3, none⟩ (.int .u64 t385)).setCell ⟨gb392, 4, none⟩ (.int .u64 t386)).setCell ⟨gb392, 5, none⟩ (.int .u64 t387)).setCell ⟨gb392, 6, none⟩ (.int .u64 t388)).setCell ⟨gb392, 7, none⟩ (.int .u64 t389)).setCell ⟨gb392, 8, none⟩ (.int .u64 t390)).heap[gb381]? = some (.cells #[.int .u32 t371, .int .u32 t372, .int .u64 t373, .int .u64 t374, .int .u64 t375, .int .u64 t376, .int .u64 t377, .int .u64 t378, .int .u64 t379] 26 (0, 0))) := ⟨by (with_reducible repeat (first | refine blk_drewN ?_ _ | refine blk_drew ?_ | refine blk_alloc ?_ _)); refine blk_far ?_ NB381_392.out _; (with_reducible repeat (first | refine blk_drewN ?_ _ | refine blk_drew ?_ | refine blk_alloc ?_ _)); refine blk_far ?_ NB381_392.out _; (with_reducible repeat (first | refine blk_drewN ?_ _ | refine blk_drew ?_ | refine blk_alloc ?_ _)); refine blk_far ?_ NB381_392.out _; (with_reducible repeat (first | refine blk_drewN ?_ _ | refine blk_drew ?_ | refine blk_alloc ?_ _)); refine blk_far ?_ NB381_392.out _; (with_reducible repeat (first | refine blk_drewN ?_ _ | refine blk_drew ?_ | refine blk_alloc ?_ _)); refine blk_far ?_ NB381_392.out _; (with_reducible repeat (first | refine blk_drewN ?_ _ | refine blk_drew ?_ | refine blk_alloc ?_ _)); refine blk_far ?_ NB381_392.out _; (with_reducible repeat (first | refine blk_drewN ?_ _ | refine blk_drew ?_ | refine blk_alloc ?_ _)); refine blk_far ?_ NB381_392.out _; (with_reducible repeat (first | refine blk_drewN ?_ _ | refine blk_drew ?_ | refine blk_alloc ?_ _)); refine blk_far ?_ NB381_392.out _; (with_reducible repeat (first | refine blk_drewN ?_ _ | refine blk_drew ?_ | refine blk_alloc ?_ _)); refine blk_far ?_ NB381_392.out _; (with_reducible repeat (first | refine blk_drewN ?_ _ | refine blk_drew ?_ | refine blk_alloc ?_ _)); exact BK381.out⟩
      have n2_ : Aside0 ((((((((((w71.setCell ⟨gb392, 0, none⟩ (.int .u32 t382)).setCell ⟨gb392, 1, none⟩ (.int .u32 t383)).setCell ⟨gb392, 2, none⟩ (.int .u64 t384)).setCell ⟨gb392, 3, none⟩ (.int .u64 t385)).setCell ⟨gb392, 4, none⟩ (.int .u64 t386)).setCell ⟨gb392, 5, none⟩ (.int .u64 t387)).setCell ⟨gb392, 6, none⟩ (.int .u64 t388)).setCell ⟨gb392, 7, none⟩ (.int .u64 t389)).setCell ⟨gb392, 8, none⟩ (.int .u64 t390)).heap[gb392]? = some (.cells #[.int .u32 t382, .int .u32 t383, .int .u64 t384, .int .u64 t385, .int .u64 t386, .int .u64 t387, .int .u64 t388, .int .u64 t389, .int .u64 t390] 26 (0, 0))) := ⟨by (with_reducible repeat (first | refine blk_drewN ?_ _ | refine blk_drew ?_ | refine blk_alloc ?_ _)); refine blk_put (cs := #[.int .u32 t382, .int .u32 t383, .int .u64 t384, .int .u64 t385, .int .u64 t386, .int .u64 t387, .int .u64 t388, .int .u64 t389, .int .u64 0]) ?_ 8 _ rfl; (with_reducible repeat (first | refine blk_drewN ?_ _ | refine blk_drew ?_ | refine blk_alloc ?_ _)); refine blk_put (cs := #[.int .u32 t382, .int .u32 t383, .int .u64 t384, .int .u64 t385, .int .u64 t386, .int .u64 t387, .int .u64 t388, .int .u64 0, .int .u64 0]) ?_ 7 _ rfl; (with_reducible repeat (first | refine blk_drewN ?_ _ | refine blk_drew ?_ | refine blk_alloc ?_ _)); refine blk_put (cs := #[.int .u32 t382, .int .u32 t383, .int .u64 t384, .int .u64 t385, .int .u64 t386, .int .u64 t387, .int .u64 0, .int .u64 0, .int .u64 0]) ?_ 6 _ rfl; (with_reducible repeat (first | refine blk_drewN ?_ _ | refine blk_drew ?_ | refine blk_alloc ?_ _)); refine blk_put (cs := #[.int .u32 t382, .int .u32 t383, .int .u64 t384, .int .u64 t385, .int .u64 t386, .int .u64 0, .int .u64 0, .int .u64 0, .int .u64 0]) ?_ 5 _ rfl; (with_reducible repeat (first | refine blk_drewN ?_ _ | refine blk_drew ?_ | refine blk_alloc ?_ _)); refine blk_put (cs := #[.int .u32 t382, .int .u32 t383, .int .u64 t384, .int .u64 t385, .int .u64 0, .int .u64 0, .int .u64 0, .int .u64 0, .int .u64 0]) ?_ 4 _ rfl; (with_reducible repeat (first | refine blk_drewN ?_ _ | refine blk_drew ?_ | refine blk_alloc ?_ _)); refine blk_put (cs := #[.int .u32 t382, .int .u32 t383, .int .u64 t384, .int .u64 0, .int .u64 0, .int .u64 0, .int .u64 0, .int .u64 0, .int .u64 0]) ?_ 3 _ rfl; (with_reducible repeat (first | refine blk_drewN ?_ _ | refine blk_drew ?_ | refine blk_alloc ?_ _)); refine blk_put (cs := #[.int .u32 t382, .int .u32 t383, .int .u64 0, .int .u64 0, .int .u64 0, .int .u64 0, .int .u64 0, .int .u64 0, .int .u64 0]) ?_ 2 _ rfl; (with_reducible repeat (first | refine blk_drewN ?_ _ | refine blk_drew ?_ | refine blk_alloc ?_ _)); refine blk_put (cs := #[.int .u32 t382, .int .u32 0, .int .u64 0, .int .u64 0, .int .u64 0, .int .u64 0, .int .u64 0, .int .u64 0, .int .u64 0]) ?_ 1 _ rfl; (with_reducible repeat (first | refine blk_drewN ?_ _ | refine blk_drew ?_ | refine blk_alloc ?_ _)); refine blk_put (cs := #[.int .u32 0, .int .u32 0, .int .u64 0, .int .u64 0, .int .u64 0, .int .u64 0, .int .u64 0, .int .u64 0, .int .u64 0]) ?_ 0 _ rfl; (with_reducible repeat (first | refine blk_drewN ?_ _ | refine blk_drew ?_ | refine blk_alloc ?_ _)); exact BK392.out⟩
      have n3_ : Aside0 (Below w.heap.size w (((((((((w71.setCell ⟨gb392, 0, none⟩ (.int .u32 t382)).setCell ⟨gb392, 1, none⟩ (.int .u32 t383)).setCell ⟨gb392, 2, none⟩ (.int .u64 t384)).setCell ⟨gb392, 3, none⟩ (.int .u64 t385)).setCell ⟨gb392, 4, none⟩ (.int .u64 t386)).setCell ⟨gb392, 5, none⟩ (.int .u64 t387)).setCell ⟨gb392, 6, none⟩ (.int .u64 t388)).setCell ⟨gb392, 7, none⟩ (.int .u64 t389)).setCell ⟨gb392, 8, none⟩ (.int .u64 t390))) := ⟨by repeat (first | (with_reducible first | exact HB.out | apply below_alloc | apply pw_below_drewN | apply below_drew1 | refine below_set ?_ GE366.out | refine below_set ?_ GE381.out | refine below_set ?_ GE392.out) | exact HB.out)⟩
      (try clear BK366)
      (try clear BK381)
      (try clear BK392)
      (try clear HB)
      generalize (((((((((w71.setCell ⟨gb392, 0, none⟩ (.int .u32 t382)).setCell ⟨gb392, 1, none⟩ (.int .u32 t383)).setCell ⟨gb392, 2, none⟩ (.int .u64 t384)).setCell ⟨gb392, 3, none⟩ (.int .u64 t385)).setCell ⟨gb392, 4, none⟩ (.int .u64 t386)).setCell ⟨gb392, 5, none⟩ (.int .u64 t387)).setCell ⟨gb392, 6, none⟩ (.int .u64 t388)).setCell ⟨gb392, 7, none⟩ (.int .u64 t389)).setCell ⟨gb392, 8, none⟩ (.int .u64 t390)) = w75 at n0_ n1_ n2_ n3_ ⊢
      have BK366 := n0_
      have BK381 := n1_
      have BK392 := n2_
      have HB := n3_
      clear n0_ n1_ n2_ n3_
      have n0_ := Aside0.mk (blk_drew BK366.out)
      have n1_ := Aside0.mk (blk_drew BK381.out)
      have n2_ := Aside0.mk (blk_drew BK392.out)
      have n3_ := Aside0.mk (below_drew1 HB.out)
      clear BK366
      clear BK381
      clear BK392
      clear HB
      have BK366 := n0_
      have BK381 := n1_
      have BK392 := n2_
      have HB := n3_
      clear n0_ n1_ n2_ n3_
      refine start_ (n := 10) (S := fun w' => Below w.heap.size w w') (ds := []) #[false, false, false, false, false, false, false, false, false, false] (by kernel_rfl) rfl rfl (by exact HB.out) (fun hHeld => ?_); refine with_tabW fairleadlaw04_DataBack.tab6 fairleadlaw04_DataBack.bits6 (fun HT_ HW_ => ?_)
      generalize w75.drew = w76 at BK366 BK381 BK392 HB hHeld ⊢
      refine pure_ (i := 0) (N := some 29) (v := ?_) (a' := ?_) #[true, false, false, false, false, false, false, false, false, false] rfl rfl (any_of HT_.out (by kernel_rfl)) (fun _ _ _ h => h) (Or.inl ⟨by rfl, ?_⟩) ?_ ?_
      rotate_left
      ·intro w'
       go_simp
       with_reducible rfl
      rotate_left
      ·simp only [Act.put, List.setIfInBounds_toArray, List.set_cons_zero, List.set_cons_succ, i64_w, i32_w]
       rfl
      refine pure_ (i := 1) (N := some 30) (v := ?_) (a' := ?_) #[true, true, false, false, false, false, false, false, false, false] rfl rfl (any_of HT_.out (by kernel_rfl)) (fun _ _ _ h => h) (Or.inl ⟨by rfl, ?_⟩) ?_ ?_
      rotate_left
      ·intro w'
       go_simp
       with_reducible rfl
      rotate_left
      ·simp only [Act.put, List.setIfInBounds_toArray, List.set_cons_zero, List.set_cons_succ, i64_w, i32_w]
       rfl
      refine pure_ (i := 2) (N := some 31) (v := ?_) (a' := ?_) #[true, true, true, false, false, false, false, false, false, false] rfl rfl (any_of HT_.out (by kernel_rfl)) (fun _ _ _ h => h) (Or.inl ⟨by rfl, ?_⟩) ?_ ?_
      rotate_left
      ·intro w'
       go_simp
       with_reducible rfl
      rotate_left
      ·simp only [Act.put, List.setIfInBounds_toArray, List.set_cons_zero, List.set_cons_succ, i64_w, i32_w]
       rfl
      refine pure_ (i := 3) (N := some 32) (v := undef) (a' := ?_) #[true, true, true, true, false, false, false, false, false, false] rfl rfl (any_of HT_.out (by kernel_rfl)) (fun _ _ _ h => h) (Or.inr ⟨by rfl, rfl⟩) ?_ ?_
      rotate_left
      ·simp only [Act.put, List.setIfInBounds_toArray, List.set_cons_zero, List.set_cons_succ, i64_w, i32_w]
       rfl
      refine pure_ (i := 4) (N := some 33) (v := undef) (a' := ?_) #[true, true, true, true, true, false, false, false, false, false] rfl rfl (any_of HT_.out (by kernel_rfl)) (fun _ _ _ h => h) (Or.inr ⟨by rfl, rfl⟩) ?_ ?_
      rotate_left
      ·simp only [Act.put, List.setIfInBounds_toArray, List.set_cons_zero, List.set_cons_succ, i64_w, i32_w]
       rfl
      refine pure_ (i := 5) (N := some 34) (v := undef) (a' := ?_) #[true, true, true, true, true, true, false, false, false, false] rfl rfl (any_of HT_.out (by kernel_rfl)) (fun _ _ _ h => h) (Or.inr ⟨by rfl, rfl⟩) ?_ ?_
      rotate_left
      ·simp only [Act.put, List.setIfInBounds_toArray, List.set_cons_zero, List.set_cons_succ, i64_w, i32_w]
       rfl
      refine pure_ (i := 6) (N := some 35) (v := undef) (a' := ?_) #[true, true, true, true, true, true, true, false, false, false] rfl rfl (any_of HT_.out (by kernel_rfl)) (fun _ _ _ h => h) (Or.inr ⟨by rfl, rfl⟩) ?_ ?_
      rotate_left
      ·simp only [Act.put, List.setIfInBounds_toArray, List.set_cons_zero, List.set_cons_succ, i64_w, i32_w]
       rfl
      refine pure_ (i := 7) (N := some 36) (v := undef) (a' := ?_) #[true, true, true, true, true, true, true, true, false, false] rfl rfl (any_of HT_.out (by kernel_rfl)) (fun _ _ _ h => h) (Or.inr ⟨by rfl, rfl⟩) ?_ ?_
      rotate_left
      ·simp only [Act.put, List.setIfInBounds_toArray, List.set_cons_zero, List.set_cons_succ, i64_w, i32_w]
       rfl
      refine pure_ (i := 8) (N := some 37) (v := undef) (a' := ?_) #[true, true, true, true, true, true, true, true, true, false] rfl rfl (any_of HT_.out (by kernel_rfl)) (fun _ _ _ h => h) (Or.inr ⟨by rfl, rfl⟩) ?_ ?_
      rotate_left
      ·simp only [Act.put, List.setIfInBounds_toArray, List.set_cons_zero, List.set_cons_succ, i64_w, i32_w]
       rfl
      refine pure_ (i := 9) (N := some 38) (v := ?_) (a' := ?_) #[true, true, true, true, true, true, true, true, true, true] rfl rfl (any_of HT_.out (by kernel_rfl)) (fun _ _ _ h => h) (Or.inl ⟨by rfl, ?_⟩) ?_ ?_
      rotate_left
      ·intro w'
       go_simp
       with_reducible rfl
      rotate_left
      ·simp only [Act.put, List.setIfInBounds_toArray, List.set_cons_zero, List.set_cons_succ, i64_w, i32_w]
       rfl
      refine done_ (done_of HT_.out (by kernel_rfl)) ?_
      try go_wp2
      go_ret
      exact ⟨by first | rfl | (simp [errW_none, errW_some] <;> rfl) | (simp [*, errW_none, errW_some] <;> rfl), by repeat (first | (with_reducible first | exact HB.out | apply below_alloc | apply pw_below_drewN | apply below_drew1 | refine below_set ?_ GE366.out | refine below_set ?_ GE381.out | refine below_set ?_ GE392.out) | exact HB.out)⟩

/-- What is to be shown of fairleadlaw04_DataBack, without Go and memory. -/
def fairleadlaw04_DataBack.Pure : Prop := ∀ (a0_0 : Int) (a0_1 : Int) (a0_2 : Int) (a0_3 : Int) (a0_4 : Int) (a0_5 : Int) (a0_6 : Int) (a0_7 : Int) (a0_8 : Int) (l1 : List Int), ((0 ≤ a0_0 ∧ a0_0 ≤ 4294967295) ∧ (0 ≤ a0_1 ∧ a0_1 ≤ 4294967295) ∧ (0 ≤ a0_2 ∧ a0_2 ≤ 18446744073709551615) ∧ ((0 ≤ a0_3 ∧ a0_3 ≤ 18446744073709551615) ∧ (0 ≤ a0_4 ∧ a0_4 ≤ 18446744073709551615) ∧ (0 ≤ a0_5 ∧ a0_5 ≤ 18446744073709551615) ∧ (0 ≤ a0_6 ∧ a0_6 ≤ 18446744073709551615) ∧ (0 ≤ a0_7 ∧ a0_7 ≤ 18446744073709551615) ∧ (0 ≤ a0_8 ∧ a0_8 ≤ 18446744073709551615))) → (l1.length ≤ 9223372036854775807 ∧ ∀ x ∈ l1, 0 ≤ x ∧ x ≤ 255) → ∃ k, fairleadlaw04_DataBack.f k a0_0 a0_1 a0_2 a0_3 a0_4 a0_5 a0_6 a0_7 a0_8 l1 = some true

end Go.Proofs.Ytkbdbphcdehmhaa.M
