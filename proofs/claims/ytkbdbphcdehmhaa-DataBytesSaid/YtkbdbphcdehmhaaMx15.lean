-- Laid by a program (wip/tools/myprint.py) out of the loaded program's own print: for each Go function a Lean function and the proof of its contract.
import Derived.Test.YtkbdbphcdehmhaaMx0
import Derived.Test.YtkbdbphcdehmhaaMx1
import Derived.Test.YtkbdbphcdehmhaaMx3
import Derived.Test.YtkbdbphcdehmhaaMx6
import Derived.Test.YtkbdbphcdehmhaaMx13
import Derived.Test.YtkbdbphcdehmhaaMx14
namespace Go.Proofs.Ytkbdbphcdehmhaa.M
open Go.RowKit Go.Proofs.YtkbdbphcdehmhaaW.PrintWords Go.Proofs.YtkbdbphcdehmhaaW.PrintLast Go.Proofs.YtkbdbphcdehmhaaW.PrintMore
attribute [local go_sem] max2_int min2_int max_two min_two max_three min_three max_four min_four   -- for this text's walks alone
set_option linter.unusedVariables false
set_option linter.unusedSimpArgs false

attribute [local go_sem high] eqA26
/-! ### fairleadlaw04_DataBytes: function 7 -/
def fairleadlaw04_DataBytes.f (k : Nat) (a0_0 : Int) (a0_1 : Int) (a0_2 : Int) (a0_3 : Int) (a0_4 : Int) (a0_5 : Int) (a0_6 : Int) (a0_7 : Int) (a0_8 : Int) (l1 : List Int) : Option (Bool) := (fairleadlaw04_awake.f k).bind fun t337 => ((data_Of.f k l1).bind fun bt338 => ((fairleadref04_Of.f k l1).bind fun bt349 => (if t337 = true then ((data_Bytes.f k a0_0 a0_1 a0_2 a0_3 a0_4 a0_5 a0_6 a0_7 a0_8).bind fun t360 => ((fairleadref04_Bytes.f k a0_0 a0_1 a0_2 a0_3 a0_4 a0_5 a0_6 a0_7 a0_8).bind fun t363 => (if (strOfNums t360).toList = (strOfNums t363).toList then (if (bt338.1 == bt349.1 && (bt338.2.1 == bt349.2.1 && (bt338.2.2.1 == bt349.2.2.1 && ((bt338.2.2.2.1 == bt349.2.2.2.1 && (bt338.2.2.2.2.1 == bt349.2.2.2.2.1 && (bt338.2.2.2.2.2.1 == bt349.2.2.2.2.2.1 && (bt338.2.2.2.2.2.2.1 == bt349.2.2.2.2.2.2.1 && (bt338.2.2.2.2.2.2.2.1 == bt349.2.2.2.2.2.2.2.1 && (bt338.2.2.2.2.2.2.2.2.1 == bt349.2.2.2.2.2.2.2.2.1)))))))))) = true then (some (bt338.2.2.2.2.2.2.2.2.2 == bt349.2.2.2.2.2.2.2.2.2)) else (some false)) else (some false)))) else (some false))))
theorem fairleadlaw04_DataBytes.mono : ∀ a0 a1 a2 a3 a4 a5 a6 a7 a8 a9 k, LeO (fairleadlaw04_DataBytes.f k a0 a1 a2 a3 a4 a5 a6 a7 a8 a9) (fairleadlaw04_DataBytes.f (k + 1) a0 a1 a2 a3 a4 a5 a6 a7 a8 a9) := by
 intro a0 a1 a2 a3 a4 a5 a6 a7 a8 a9 k
 unfold fairleadlaw04_DataBytes.f
 repeat' first
   | (with_reducible exact data_Bytes.mono _ _ _ _ _ _ _ _ _ _)
   | (with_reducible exact data_Of.mono _ _)
   | (with_reducible exact fairleadlaw04_awake.mono _)
   | (with_reducible exact fairleadref04_Bytes.mono _ _ _ _ _ _ _ _ _ _)
   | (with_reducible exact fairleadref04_Of.mono _ _)
   | (with_reducible exact LeO.refl _)
   | (with_reducible exact LeO.none _)
   | (with_reducible refine LeO.ite ?_ ?_)
   | (with_reducible refine LeO.bind ?_ (fun _ => ?_))
   | exact data_Bytes.mono _ _ _ _ _ _ _ _ _ _
   | exact data_Of.mono _ _
   | exact fairleadlaw04_awake.mono _
   | exact fairleadref04_Bytes.mono _ _ _ _ _ _ _ _ _ _
   | exact fairleadref04_Of.mono _ _
   | exact LeO.none _
   | refine LeO.ite ?_ ?_
   | refine LeO.bind ?_ (fun _ => ?_)
def fairleadlaw04_DataBytes.T4 : Bool × List (List Nat × List Nat) := (true, [([], []), ([0], [0]), ([1], [1]), ([2, 1, 1], [1, 2]), ([3, 1], [1, 3]), ([1], [1]), ([5, 3, 1], [1, 5]), ([6, 1], [1, 6]), ([4, 7, 1], [1, 4, 7]), ([1, 8], [1, 8]), ([9, 6], [9]), ([10], [10]), ([10], [10]), ([11, 12, 10], [10, 11, 12]), ([10, 13], [10, 13]), ([14, 10], [14]), ([15], [15]), ([15], [15]), ([16, 17, 15], [15, 16, 17]), ([15, 18], [15, 18]), ([19, 15, 0, 1, 2, 3, 4, 5, 6, 7, 8, 9, 10, 11, 12, 13, 14, 15, 16, 17, 18, 19], [19])])
def fairleadlaw04_DataBytes.B4 : List Nat := [0, 1, 3, 7, 15, 3, 47, 111, 255, 511, 1023, 2047, 2047, 8191, 16383, 32767, 65535, 65535, 262143, 524287, 1048575]
theorem fairleadlaw04_DataBytes.tab4 : rtab .any (opsOf Try.f7 4) = fairleadlaw04_DataBytes.T4 := by kernel_rfl
theorem fairleadlaw04_DataBytes.bits4 : waitsOk fairleadlaw04_DataBytes.T4.2 fairleadlaw04_DataBytes.B4 = true := by kernel_rfl
set_option maxHeartbeats 8000000 in
set_option maxRecDepth 100000 in
theorem fairleadlaw04_DataBytes.calls (k : Nat) (a0_0 : Int) (a0_1 : Int) (a0_2 : Int) (a0_3 : Int) (a0_4 : Int) (a0_5 : Int) (a0_6 : Int) (a0_7 : Int) (a0_8 : Int) (A1 : Option Addr) (c1 : Nat) (l1 : List Int) (r : Bool) (w : World) (hr1 : Kd.C (Kd.int .u8) w A1 l1.length l1) (hc1 : l1.length ≤ c1) (h : fairleadlaw04_DataBytes.f k a0_0 a0_1 a0_2 a0_3 a0_4 a0_5 a0_6 a0_7 a0_8 l1 = some r) :
  Calls Try.prog 7 #[.agg #[.int .u32 a0_0, .int .u32 a0_1, .int .u64 a0_2, .int .u64 a0_3, .int .u64 a0_4, .int .u64 a0_5, .int .u64 a0_6, .int .u64 a0_7, .int .u64 a0_8], .slice A1 l1.length c1] w fun e w' => e = .returned (.bool r) ∧ Below w.heap.size w w' := by
 have hu26 := Try.underlying26
 have HR1 := Aside0.mk hr1
 have HC1 := Aside0.mk hc1
 clear hr1 hc1
 have HB := Aside0.mk (Below.refl w.heap.size w)
 have H : ((fairleadlaw04_awake.f k).bind fun t337 => ((data_Of.f k l1).bind fun bt338 => ((fairleadref04_Of.f k l1).bind fun bt349 => (if t337 = true then ((data_Bytes.f k a0_0 a0_1 a0_2 a0_3 a0_4 a0_5 a0_6 a0_7 a0_8).bind fun t360 => ((fairleadref04_Bytes.f k a0_0 a0_1 a0_2 a0_3 a0_4 a0_5 a0_6 a0_7 a0_8).bind fun t363 => (if (strOfNums t360).toList = (strOfNums t363).toList then (if (bt338.1 == bt349.1 && (bt338.2.1 == bt349.2.1 && (bt338.2.2.1 == bt349.2.2.1 && ((bt338.2.2.2.1 == bt349.2.2.2.1 && (bt338.2.2.2.2.1 == bt349.2.2.2.2.1 && (bt338.2.2.2.2.2.1 == bt349.2.2.2.2.2.1 && (bt338.2.2.2.2.2.2.1 == bt349.2.2.2.2.2.2.1 && (bt338.2.2.2.2.2.2.2.1 == bt349.2.2.2.2.2.2.2.1 && (bt338.2.2.2.2.2.2.2.2.1 == bt349.2.2.2.2.2.2.2.2.1)))))))))) = true then (some (bt338.2.2.2.2.2.2.2.2.2 == bt349.2.2.2.2.2.2.2.2.2)) else (some false)) else (some false)))) else (some false))))) = some r := h
 clear h
 replace H := Option.bind_eq_some_iff.mp H
 obtain ⟨t337, A30, H⟩ := H
 replace H : ((data_Of.f k l1).bind fun bt338 => ((fairleadref04_Of.f k l1).bind fun bt349 => (if t337 = true then ((data_Bytes.f k a0_0 a0_1 a0_2 a0_3 a0_4 a0_5 a0_6 a0_7 a0_8).bind fun t360 => ((fairleadref04_Bytes.f k a0_0 a0_1 a0_2 a0_3 a0_4 a0_5 a0_6 a0_7 a0_8).bind fun t363 => (if (strOfNums t360).toList = (strOfNums t363).toList then (if (bt338.1 == bt349.1 && (bt338.2.1 == bt349.2.1 && (bt338.2.2.1 == bt349.2.2.1 && ((bt338.2.2.2.1 == bt349.2.2.2.1 && (bt338.2.2.2.2.1 == bt349.2.2.2.2.1 && (bt338.2.2.2.2.2.1 == bt349.2.2.2.2.2.1 && (bt338.2.2.2.2.2.2.1 == bt349.2.2.2.2.2.2.1 && (bt338.2.2.2.2.2.2.2.1 == bt349.2.2.2.2.2.2.2.1 && (bt338.2.2.2.2.2.2.2.2.1 == bt349.2.2.2.2.2.2.2.2.1)))))))))) = true then (some (bt338.2.2.2.2.2.2.2.2.2 == bt349.2.2.2.2.2.2.2.2.2)) else (some false)) else (some false)))) else (some false)))) = some r := H
 have A3 := Aside0.mk A30
 clear A30
 replace H := Option.bind_eq_some_iff.mp H
 obtain ⟨⟨t338, t339, t340, t341, t342, t343, t344, t345, t346, t347⟩, A40, H⟩ := H
 replace H : ((fairleadref04_Of.f k l1).bind fun bt349 => (if t337 = true then ((data_Bytes.f k a0_0 a0_1 a0_2 a0_3 a0_4 a0_5 a0_6 a0_7 a0_8).bind fun t360 => ((fairleadref04_Bytes.f k a0_0 a0_1 a0_2 a0_3 a0_4 a0_5 a0_6 a0_7 a0_8).bind fun t363 => (if (strOfNums t360).toList = (strOfNums t363).toList then (if (t338 == bt349.1 && (t339 == bt349.2.1 && (t340 == bt349.2.2.1 && ((t341 == bt349.2.2.2.1 && (t342 == bt349.2.2.2.2.1 && (t343 == bt349.2.2.2.2.2.1 && (t344 == bt349.2.2.2.2.2.2.1 && (t345 == bt349.2.2.2.2.2.2.2.1 && (t346 == bt349.2.2.2.2.2.2.2.2.1)))))))))) = true then (some (t347 == bt349.2.2.2.2.2.2.2.2.2)) else (some false)) else (some false)))) else (some false))) = some r := H
 have A4 := Aside0.mk A40
 clear A40
 replace H := Option.bind_eq_some_iff.mp H
 obtain ⟨⟨t349, t350, t351, t352, t353, t354, t355, t356, t357, t358⟩, A50, H⟩ := H
 replace H : (if t337 = true then ((data_Bytes.f k a0_0 a0_1 a0_2 a0_3 a0_4 a0_5 a0_6 a0_7 a0_8).bind fun t360 => ((fairleadref04_Bytes.f k a0_0 a0_1 a0_2 a0_3 a0_4 a0_5 a0_6 a0_7 a0_8).bind fun t363 => (if (strOfNums t360).toList = (strOfNums t363).toList then (if (t338 == t349 && (t339 == t350 && (t340 == t351 && ((t341 == t352 && (t342 == t353 && (t343 == t354 && (t344 == t355 && (t345 == t356 && (t346 == t357)))))))))) = true then (some (t347 == t358)) else (some false)) else (some false)))) else (some false)) = some r := H
 have A5 := Aside0.mk A50
 clear A50
 by_cases c6 : t337 = true
 ·subst c6
  have H1 : ((data_Bytes.f k a0_0 a0_1 a0_2 a0_3 a0_4 a0_5 a0_6 a0_7 a0_8).bind fun t360 => ((fairleadref04_Bytes.f k a0_0 a0_1 a0_2 a0_3 a0_4 a0_5 a0_6 a0_7 a0_8).bind fun t363 => (if (strOfNums t360).toList = (strOfNums t363).toList then (if (t338 == t349 && (t339 == t350 && (t340 == t351 && ((t341 == t352 && (t342 == t353 && (t343 == t354 && (t344 == t355 && (t345 == t356 && (t346 == t357)))))))))) = true then (some (t347 == t358)) else (some false)) else (some false)))) = some r := by rw [if_pos rfl] at H; exact H
  clear H
  have H := H1
  clear H1
  replace H := Option.bind_eq_some_iff.mp H
  obtain ⟨t360, A70, H⟩ := H
  replace H : ((fairleadref04_Bytes.f k a0_0 a0_1 a0_2 a0_3 a0_4 a0_5 a0_6 a0_7 a0_8).bind fun t363 => (if (strOfNums t360).toList = (strOfNums t363).toList then (if (t338 == t349 && (t339 == t350 && (t340 == t351 && ((t341 == t352 && (t342 == t353 && (t343 == t354 && (t344 == t355 && (t345 == t356 && (t346 == t357)))))))))) = true then (some (t347 == t358)) else (some false)) else (some false))) = some r := H
  have A7 := Aside0.mk A70
  clear A70
  replace H := Option.bind_eq_some_iff.mp H
  obtain ⟨t363, A80, H⟩ := H
  replace H : (if (strOfNums t360).toList = (strOfNums t363).toList then (if (t338 == t349 && (t339 == t350 && (t340 == t351 && ((t341 == t352 && (t342 == t353 && (t343 == t354 && (t344 == t355 && (t345 == t356 && (t346 == t357)))))))))) = true then (some (t347 == t358)) else (some false)) else (some false)) = some r := H
  have A8 := Aside0.mk A80
  clear A80
  by_cases c9 : (strOfNums t360).toList = (strOfNums t363).toList
  ·rw [if_pos c9] at H
   have c9b0 : ((strOfNums t360).toList == (strOfNums t363).toList) = true := beq_iff_eq.mpr c9
   have c9b1 : ((strOfNums t360).toList != (strOfNums t363).toList) = false := bne_eq_false_iff_eq.mpr c9
   clear c9
   by_cases c10 : (t338 == t349 && (t339 == t350 && (t340 == t351 && ((t341 == t352 && (t342 == t353 && (t343 == t354 && (t344 == t355 && (t345 == t356 && (t346 == t357)))))))))) = true
   ·rw [if_pos c10] at H
    have c10b0 : (t338 == t349 && (t339 == t350 && (t340 == t351 && ((t341 == t352 && (t342 == t353 && (t343 == t354 && (t344 == t355 && (t345 == t356 && (t346 == t357)))))))))) = true := c10
    (try (have c10b1 : decide (t338 = t349 && (t339 == t350 && (t340 == t351 && ((t341 == t352 && (t342 == t353 && (t343 == t354 && (t344 == t355 && (t345 == t356 && (t346 == t357)))))))))) = true := by simpa using c10))
    (try (have c10b2 : (t338 == t349 && (t339 == t350 && (t340 == t351 && ((t341 == t352 && (t342 == t353 && (t343 == t354 && (t344 == t355 && (t345 == t356 && (t346 == t357)))))))))) = true := by simpa using c10))
    clear c10
    obtain rfl := Option.some.inj H
    go_enter Try.func7, Try.ntmps7
    try go_wp2_with (first | ((with_reducible refine gate_dst (N := 2) rfl ?_); refine box_event ?hg (N := 2) ?hd (cs := #[.int .u32 a0_0, .int .u32 a0_1, .int .u64 a0_2, .int .u64 a0_3, .int .u64 a0_4, .int .u64 a0_5, .int .u64 a0_6, .int .u64 a0_7, .int .u64 a0_8]) (t := 26) ?hr ?_; (case hd => rfl); (case hg => rfl); (case hr => first | (go_simp; done) | (go_simp; rfl)); intro gb336 hg w11 hbox hb; have n0_ := Aside0.mk (below_step (by repeat (first | (with_reducible first | exact HB.out | apply below_alloc | apply pw_below_drewN | apply below_drew1) | exact HB.out)) hb); have n1_ := Aside0.mk (hbox); have n2_ := Aside0.mk ((by rw [hg]; exact (below_size (by repeat (first | (with_reducible first | exact HB.out | apply below_alloc | apply pw_below_drewN | apply below_drew1) | exact HB.out))) : w.heap.size ≤ gb336)); have n3_ := Aside0.mk ((by rw [hg]; exact (below_size (by repeat (first | (with_reducible first | exact HB.out | apply below_alloc | apply pw_below_drewN | apply below_drew1) | exact HB.out))) : w.heap.size ≤ gb336)); clear HB; have HB := n0_; have BK336 := n1_; have GW336 := n2_; have GE336 := n3_; clear n0_ n1_ n2_ n3_; clear hb hbox hg) | ((with_reducible refine gate_callee (f := 9) rfl ?_); refine goesL_ (some 10) rfl rfl Try.func9 (by kernel_rfl) rfl #[] rfl (by (try simp only [List.map_toArray, List.map_cons, List.map_nil]); first | done | rfl | (simp only [List.length_drop, List.length_take]; rfl)) ?_; (with_reducible refine (fairleadlaw04_awake.calls k  true _ A3.out).mono ?_); rintro e w12 ⟨rfl, hb⟩; refine ⟨_, rfl, ?_⟩; have n0_ := Aside0.mk (blk_below (g := gb336) (o := .cells #[.int .u32 a0_0, .int .u32 a0_1, .int .u64 a0_2, .int .u64 a0_3, .int .u64 a0_4, .int .u64 a0_5, .int .u64 a0_6, .int .u64 a0_7, .int .u64 a0_8] 26 (0, 0)) (by (with_reducible repeat (first | refine blk_drewN ?_ _ | refine blk_drew ?_ | refine blk_alloc ?_ _)); exact BK336.out) hb); have n1_ := Aside0.mk (below_step (by repeat (first | (with_reducible first | exact HB.out | apply below_alloc | apply pw_below_drewN | apply below_drew1 | refine below_set ?_ GE336.out) | exact HB.out)) hb); clear BK336; clear HB; have BK336 := n0_; have HB := n1_; clear n0_ n1_; (try clear hb); (try clear hb2); (try clear hk); (try clear hi)) | ((with_reducible refine gate_callee (f := 15) rfl ?_); refine goesL_ (some 13) rfl rfl Try.func15 (by kernel_rfl) rfl #[.slice A1 l1.length c1] rfl (by (try simp only [List.map_toArray, List.map_cons, List.map_nil]); first | done | rfl | (simp only [List.length_drop, List.length_take]; rfl)) ?_; (with_reducible refine (data_Of.calls k _ _ l1 t338 t339 t340 t341 t342 t343 t344 t345 t346 t347 _ ?side1 ?side2 A4.out).mono ?_); (case side1 => repeat (first | exact (Kd.C_below HR1.out HB.out) | (with_reducible refine Kd.C_alloc ?_ _) | (with_reducible refine Kd.C_drewN ?_ _) | (with_reducible refine Kd.C_drew ?_))); (case side2 => exact HC1.out); rintro e w13 ⟨rfl, hb⟩; refine ⟨_, rfl, ?_⟩; have n0_ := Aside0.mk (blk_below (g := gb336) (o := .cells #[.int .u32 a0_0, .int .u32 a0_1, .int .u64 a0_2, .int .u64 a0_3, .int .u64 a0_4, .int .u64 a0_5, .int .u64 a0_6, .int .u64 a0_7, .int .u64 a0_8] 26 (0, 0)) (by (with_reducible repeat (first | refine blk_drewN ?_ _ | refine blk_drew ?_ | refine blk_alloc ?_ _)); exact BK336.out) hb); have n1_ := Aside0.mk (below_step (by repeat (first | (with_reducible first | exact HB.out | apply below_alloc | apply pw_below_drewN | apply below_drew1 | refine below_set ?_ GE336.out) | exact HB.out)) hb); clear BK336; clear HB; have BK336 := n0_; have HB := n1_; clear n0_ n1_; (try clear hb); (try clear hb2); (try clear hk); (try clear hi)) | ((with_reducible refine gate_dst (N := 6) rfl ?_); refine box_event ?hg (N := 6) ?hd (cs := #[.int .u32 0, .int .u32 0, .int .u64 0, .int .u64 0, .int .u64 0, .int .u64 0, .int .u64 0, .int .u64 0, .int .u64 0]) (t := 26) ?hr ?_; (case hd => rfl); (case hg => rfl); (case hr => first | (go_simp; done) | (go_simp; rfl)); intro gb348 hg w14 hbox hb; have n0_ := Aside0.mk (blk_below (g := gb336) (o := .cells #[.int .u32 a0_0, .int .u32 a0_1, .int .u64 a0_2, .int .u64 a0_3, .int .u64 a0_4, .int .u64 a0_5, .int .u64 a0_6, .int .u64 a0_7, .int .u64 a0_8] 26 (0, 0)) (by (with_reducible repeat (first | refine blk_drewN ?_ _ | refine blk_drew ?_ | refine blk_alloc ?_ _)); exact BK336.out) hb); have n1_ := Aside0.mk (below_step (by repeat (first | (with_reducible first | exact HB.out | apply below_alloc | apply pw_below_drewN | apply below_drew1 | refine below_set ?_ GE336.out) | exact HB.out)) hb); have n2_ := Aside0.mk (hbox); have n3_ := Aside0.mk ((by rw [hg]; exact (below_size (by repeat (first | (with_reducible first | exact HB.out | apply below_alloc | apply pw_below_drewN | apply below_drew1 | refine below_set ?_ GE336.out) | exact HB.out))) : w.heap.size ≤ gb348)); have n4_ := Aside0.mk ((by rw [hg]; exact (below_size (by repeat (first | (with_reducible first | exact HB.out | apply below_alloc | apply pw_below_drewN | apply below_drew1 | refine below_set ?_ GE336.out) | exact HB.out))) : w.heap.size ≤ gb348)); have n5_ := Aside0.mk ((by rw [hg]; exact Nat.ne_of_lt (blk_lt (g := gb336) (o := .cells #[.int .u32 a0_0, .int .u32 a0_1, .int .u64 a0_2, .int .u64 a0_3, .int .u64 a0_4, .int .u64 a0_5, .int .u64 a0_6, .int .u64 a0_7, .int .u64 a0_8] 26 (0, 0)) (by (with_reducible repeat (first | refine blk_drewN ?_ _ | refine blk_drew ?_ | refine blk_alloc ?_ _)); exact BK336.out)) : gb336 ≠ gb348)); have n6_ := Aside0.mk ((by rw [hg]; exact Nat.ne_of_gt (blk_lt (g := gb336) (o := .cells #[.int .u32 a0_0, .int .u32 a0_1, .int .u64 a0_2, .int .u64 a0_3, .int .u64 a0_4, .int .u64 a0_5, .int .u64 a0_6, .int .u64 a0_7, .int .u64 a0_8] 26 (0, 0)) (by (with_reducible repeat (first | refine blk_drewN ?_ _ | refine blk_drew ?_ | refine blk_alloc ?_ _)); exact BK336.out)) : gb348 ≠ gb336)); clear BK336; clear HB; have BK336 := n0_; have HB := n1_; have BK348 := n2_; have GW348 := n3_; have GE348 := n4_; have NB336_348 := n5_; have NB348_336 := n6_; clear n0_ n1_ n2_ n3_ n4_ n5_ n6_; clear hb hbox hg; have hnb15 := NB348_336.out; have hnc15 := NB336_348.out; have hcz16_0 : w14.cell? ⟨gb348, 0, none⟩ = some (.int .u32 0) := (blk_cell BK348.out 0).trans rfl; have hcz16_1 : w14.cell? ⟨gb348, 1, none⟩ = some (.int .u32 0) := (blk_cell BK348.out 1).trans rfl; have hcz16_2 : w14.cell? ⟨gb348, 2, none⟩ = some (.int .u64 0) := (blk_cell BK348.out 2).trans rfl; have hcz16_3 : w14.cell? ⟨gb348, 3, none⟩ = some (.int .u64 0) := (blk_cell BK348.out 3).trans rfl; have hcz16_4 : w14.cell? ⟨gb348, 4, none⟩ = some (.int .u64 0) := (blk_cell BK348.out 4).trans rfl; have hcz16_5 : w14.cell? ⟨gb348, 5, none⟩ = some (.int .u64 0) := (blk_cell BK348.out 5).trans rfl; have hcz16_6 : w14.cell? ⟨gb348, 6, none⟩ = some (.int .u64 0) := (blk_cell BK348.out 6).trans rfl; have hcz16_7 : w14.cell? ⟨gb348, 7, none⟩ = some (.int .u64 0) := (blk_cell BK348.out 7).trans rfl; have hcz16_8 : w14.cell? ⟨gb348, 8, none⟩ = some (.int .u64 0) := (blk_cell BK348.out 8).trans rfl; have hfz16_0 := blk_frozen BK348.out 0; have hfz16_1 := blk_frozen BK348.out 1; have hfz16_2 := blk_frozen BK348.out 2; have hfz16_3 := blk_frozen BK348.out 3; have hfz16_4 := blk_frozen BK348.out 4; have hfz16_5 := blk_frozen BK348.out 5; have hfz16_6 := blk_frozen BK348.out 6; have hfz16_7 := blk_frozen BK348.out 7; have hfz16_8 := blk_frozen BK348.out 8) | ((with_reducible refine gate_callee (f := 16) rfl ?_); refine goesL_ (some 18) rfl rfl Try.func16 (by kernel_rfl) rfl #[.slice A1 l1.length c1] rfl (by (try simp only [List.map_toArray, List.map_cons, List.map_nil]); first | done | rfl | (simp only [List.length_drop, List.length_take]; rfl)) ?_; (with_reducible refine (fairleadref04_Of.calls k _ _ l1 t349 t350 t351 t352 t353 t354 t355 t356 t357 t358 _ ?side1 ?side2 A5.out).mono ?_); (case side1 => exact Kd.C_below HR1.out (by repeat (first | (with_reducible first | exact HB.out | apply below_alloc | apply pw_below_drewN | apply below_drew1 | refine below_set ?_ GE336.out | refine below_set ?_ GE348.out) | exact HB.out))); (case side2 => exact HC1.out); rintro e w17 ⟨rfl, hb⟩; refine ⟨_, rfl, ?_⟩; have n0_ := Aside0.mk (blk_below (g := gb336) (o := .cells #[.int .u32 a0_0, .int .u32 a0_1, .int .u64 a0_2, .int .u64 a0_3, .int .u64 a0_4, .int .u64 a0_5, .int .u64 a0_6, .int .u64 a0_7, .int .u64 a0_8] 26 (0, 0)) (by (with_reducible repeat (first | refine blk_drewN ?_ _ | refine blk_drew ?_ | refine blk_alloc ?_ _)); refine blk_far ?_ NB336_348.out _; (with_reducible repeat (first | refine blk_drewN ?_ _ | refine blk_drew ?_ | refine blk_alloc ?_ _)); refine blk_far ?_ NB336_348.out _; (with_reducible repeat (first | refine blk_drewN ?_ _ | refine blk_drew ?_ | refine blk_alloc ?_ _)); refine blk_far ?_ NB336_348.out _; (with_reducible repeat (first | refine blk_drewN ?_ _ | refine blk_drew ?_ | refine blk_alloc ?_ _)); refine blk_far ?_ NB336_348.out _; (with_reducible repeat (first | refine blk_drewN ?_ _ | refine blk_drew ?_ | refine blk_alloc ?_ _)); refine blk_far ?_ NB336_348.out _; (with_reducible repeat (first | refine blk_drewN ?_ _ | refine blk_drew ?_ | refine blk_alloc ?_ _)); refine blk_far ?_ NB336_348.out _; (with_reducible repeat (first | refine blk_drewN ?_ _ | refine blk_drew ?_ | refine blk_alloc ?_ _)); refine blk_far ?_ NB336_348.out _; (with_reducible repeat (first | refine blk_drewN ?_ _ | refine blk_drew ?_ | refine blk_alloc ?_ _)); refine blk_far ?_ NB336_348.out _; (with_reducible repeat (first | refine blk_drewN ?_ _ | refine blk_drew ?_ | refine blk_alloc ?_ _)); refine blk_far ?_ NB336_348.out _; (with_reducible repeat (first | refine blk_drewN ?_ _ | refine blk_drew ?_ | refine blk_alloc ?_ _)); exact BK336.out) hb); have n1_ := Aside0.mk (blk_below (g := gb348) (o := .cells #[.int .u32 t338, .int .u32 t339, .int .u64 t340, .int .u64 t341, .int .u64 t342, .int .u64 t343, .int .u64 t344, .int .u64 t345, .int .u64 t346] 26 (0, 0)) (by (with_reducible repeat (first | refine blk_drewN ?_ _ | refine blk_drew ?_ | refine blk_alloc ?_ _)); refine blk_put (cs := #[.int .u32 t338, .int .u32 t339, .int .u64 t340, .int .u64 t341, .int .u64 t342, .int .u64 t343, .int .u64 t344, .int .u64 t345, .int .u64 0]) ?_ 8 _ rfl; (with_reducible repeat (first | refine blk_drewN ?_ _ | refine blk_drew ?_ | refine blk_alloc ?_ _)); refine blk_put (cs := #[.int .u32 t338, .int .u32 t339, .int .u64 t340, .int .u64 t341, .int .u64 t342, .int .u64 t343, .int .u64 t344, .int .u64 0, .int .u64 0]) ?_ 7 _ rfl; (with_reducible repeat (first | refine blk_drewN ?_ _ | refine blk_drew ?_ | refine blk_alloc ?_ _)); refine blk_put (cs := #[.int .u32 t338, .int .u32 t339, .int .u64 t340, .int .u64 t341, .int .u64 t342, .int .u64 t343, .int .u64 0, .int .u64 0, .int .u64 0]) ?_ 6 _ rfl; (with_reducible repeat (first | refine blk_drewN ?_ _ | refine blk_drew ?_ | refine blk_alloc ?_ _)); refine blk_put (cs := #[.int .u32 t338, .int .u32 t339, .int .u64 t340, .int .u64 t341, .int .u64 t342, .int .u64 0, .int .u64 0, .int .u64 0, .int .u64 0]) ?_ 5 _ rfl; (with_reducible repeat (first | refine blk_drewN ?_ _ | refine blk_drew ?_ | refine blk_alloc ?_ _)); refine blk_put (cs := #[.int .u32 t338, .int .u32 t339, .int .u64 t340, .int .u64 t341, .int .u64 0, .int .u64 0, .int .u64 0, .int .u64 0, .int .u64 0]) ?_ 4 _ rfl; (with_reducible repeat (first | refine blk_drewN ?_ _ | refine blk_drew ?_ | refine blk_alloc ?_ _)); refine blk_put (cs := #[.int .u32 t338, .int .u32 t339, .int .u64 t340, .int .u64 0, .int .u64 0, .int .u64 0, .int .u64 0, .int .u64 0, .int .u64 0]) ?_ 3 _ rfl; (with_reducible repeat (first | refine blk_drewN ?_ _ | refine blk_drew ?_ | refine blk_alloc ?_ _)); refine blk_put (cs := #[.int .u32 t338, .int .u32 t339, .int .u64 0, .int .u64 0, .int .u64 0, .int .u64 0, .int .u64 0, .int .u64 0, .int .u64 0]) ?_ 2 _ rfl; (with_reducible repeat (first | refine blk_drewN ?_ _ | refine blk_drew ?_ | refine blk_alloc ?_ _)); refine blk_put (cs := #[.int .u32 t338, .int .u32 0, .int .u64 0, .int .u64 0, .int .u64 0, .int .u64 0, .int .u64 0, .int .u64 0, .int .u64 0]) ?_ 1 _ rfl; (with_reducible repeat (first | refine blk_drewN ?_ _ | refine blk_drew ?_ | refine blk_alloc ?_ _)); refine blk_put (cs := #[.int .u32 0, .int .u32 0, .int .u64 0, .int .u64 0, .int .u64 0, .int .u64 0, .int .u64 0, .int .u64 0, .int .u64 0]) ?_ 0 _ rfl; (with_reducible repeat (first | refine blk_drewN ?_ _ | refine blk_drew ?_ | refine blk_alloc ?_ _)); exact BK348.out) hb); have n2_ := Aside0.mk (below_step (by repeat (first | (with_reducible first | exact HB.out | apply below_alloc | apply pw_below_drewN | apply below_drew1 | refine below_set ?_ GE336.out | refine below_set ?_ GE348.out) | exact HB.out)) hb); clear BK336; clear BK348; clear HB; have BK336 := n0_; have BK348 := n1_; have HB := n2_; clear n0_ n1_ n2_; (try clear hb); (try clear hb2); (try clear hk); (try clear hi)) | ((with_reducible refine gate_dst (N := 8) rfl ?_); refine box_event ?hg (N := 8) ?hd (cs := #[.int .u32 0, .int .u32 0, .int .u64 0, .int .u64 0, .int .u64 0, .int .u64 0, .int .u64 0, .int .u64 0, .int .u64 0]) (t := 26) ?hr ?_; (case hd => rfl); (case hg => rfl); (case hr => first | (go_simp; done) | (go_simp; rfl)); intro gb359 hg w18 hbox hb; have n0_ := Aside0.mk (blk_below (g := gb336) (o := .cells #[.int .u32 a0_0, .int .u32 a0_1, .int .u64 a0_2, .int .u64 a0_3, .int .u64 a0_4, .int .u64 a0_5, .int .u64 a0_6, .int .u64 a0_7, .int .u64 a0_8] 26 (0, 0)) (by (with_reducible repeat (first | refine blk_drewN ?_ _ | refine blk_drew ?_ | refine blk_alloc ?_ _)); exact BK336.out) hb); have n1_ := Aside0.mk (blk_below (g := gb348) (o := .cells #[.int .u32 t338, .int .u32 t339, .int .u64 t340, .int .u64 t341, .int .u64 t342, .int .u64 t343, .int .u64 t344, .int .u64 t345, .int .u64 t346] 26 (0, 0)) (by (with_reducible repeat (first | refine blk_drewN ?_ _ | refine blk_drew ?_ | refine blk_alloc ?_ _)); exact BK348.out) hb); have n2_ := Aside0.mk (below_step (by repeat (first | (with_reducible first | exact HB.out | apply below_alloc | apply pw_below_drewN | apply below_drew1 | refine below_set ?_ GE336.out | refine below_set ?_ GE348.out) | exact HB.out)) hb); have n3_ := Aside0.mk (hbox); have n4_ := Aside0.mk ((by rw [hg]; exact (below_size (by repeat (first | (with_reducible first | exact HB.out | apply below_alloc | apply pw_below_drewN | apply below_drew1 | refine below_set ?_ GE336.out | refine below_set ?_ GE348.out) | exact HB.out))) : w.heap.size ≤ gb359)); have n5_ := Aside0.mk ((by rw [hg]; exact (below_size (by repeat (first | (with_reducible first | exact HB.out | apply below_alloc | apply pw_below_drewN | apply below_drew1 | refine below_set ?_ GE336.out | refine below_set ?_ GE348.out) | exact HB.out))) : w.heap.size ≤ gb359)); have n6_ := Aside0.mk ((by rw [hg]; exact Nat.ne_of_lt (blk_lt (g := gb336) (o := .cells #[.int .u32 a0_0, .int .u32 a0_1, .int .u64 a0_2, .int .u64 a0_3, .int .u64 a0_4, .int .u64 a0_5, .int .u64 a0_6, .int .u64 a0_7, .int .u64 a0_8] 26 (0, 0)) (by (with_reducible repeat (first | refine blk_drewN ?_ _ | refine blk_drew ?_ | refine blk_alloc ?_ _)); exact BK336.out)) : gb336 ≠ gb359)); have n7_ := Aside0.mk ((by rw [hg]; exact Nat.ne_of_gt (blk_lt (g := gb336) (o := .cells #[.int .u32 a0_0, .int .u32 a0_1, .int .u64 a0_2, .int .u64 a0_3, .int .u64 a0_4, .int .u64 a0_5, .int .u64 a0_6, .int .u64 a0_7, .int .u64 a0_8] 26 (0, 0)) (by (with_reducible repeat (first | refine blk_drewN ?_ _ | refine blk_drew ?_ | refine blk_alloc ?_ _)); exact BK336.out)) : gb359 ≠ gb336)); have n8_ := Aside0.mk ((by rw [hg]; exact Nat.ne_of_lt (blk_lt (g := gb348) (o := .cells #[.int .u32 t338, .int .u32 t339, .int .u64 t340, .int .u64 t341, .int .u64 t342, .int .u64 t343, .int .u64 t344, .int .u64 t345, .int .u64 t346] 26 (0, 0)) (by (with_reducible repeat (first | refine blk_drewN ?_ _ | refine blk_drew ?_ | refine blk_alloc ?_ _)); exact BK348.out)) : gb348 ≠ gb359)); have n9_ := Aside0.mk ((by rw [hg]; exact Nat.ne_of_gt (blk_lt (g := gb348) (o := .cells #[.int .u32 t338, .int .u32 t339, .int .u64 t340, .int .u64 t341, .int .u64 t342, .int .u64 t343, .int .u64 t344, .int .u64 t345, .int .u64 t346] 26 (0, 0)) (by (with_reducible repeat (first | refine blk_drewN ?_ _ | refine blk_drew ?_ | refine blk_alloc ?_ _)); exact BK348.out)) : gb359 ≠ gb348)); clear BK336; clear BK348; clear HB; have BK336 := n0_; have BK348 := n1_; have HB := n2_; have BK359 := n3_; have GW359 := n4_; have GE359 := n5_; have NB336_359 := n6_; have NB359_336 := n7_; have NB348_359 := n8_; have NB359_348 := n9_; clear n0_ n1_ n2_ n3_ n4_ n5_ n6_ n7_ n8_ n9_; clear hb hbox hg; have hnb19 := NB359_336.out; have hnc19 := NB336_359.out; have hnb20 := NB359_348.out; have hnc20 := NB348_359.out; have hcz21_0 : w18.cell? ⟨gb359, 0, none⟩ = some (.int .u32 0) := (blk_cell BK359.out 0).trans rfl; have hcz21_1 : w18.cell? ⟨gb359, 1, none⟩ = some (.int .u32 0) := (blk_cell BK359.out 1).trans rfl; have hcz21_2 : w18.cell? ⟨gb359, 2, none⟩ = some (.int .u64 0) := (blk_cell BK359.out 2).trans rfl; have hcz21_3 : w18.cell? ⟨gb359, 3, none⟩ = some (.int .u64 0) := (blk_cell BK359.out 3).trans rfl; have hcz21_4 : w18.cell? ⟨gb359, 4, none⟩ = some (.int .u64 0) := (blk_cell BK359.out 4).trans rfl; have hcz21_5 : w18.cell? ⟨gb359, 5, none⟩ = some (.int .u64 0) := (blk_cell BK359.out 5).trans rfl; have hcz21_6 : w18.cell? ⟨gb359, 6, none⟩ = some (.int .u64 0) := (blk_cell BK359.out 6).trans rfl; have hcz21_7 : w18.cell? ⟨gb359, 7, none⟩ = some (.int .u64 0) := (blk_cell BK359.out 7).trans rfl; have hcz21_8 : w18.cell? ⟨gb359, 8, none⟩ = some (.int .u64 0) := (blk_cell BK359.out 8).trans rfl; have hfz21_0 := blk_frozen BK359.out 0; have hfz21_1 := blk_frozen BK359.out 1; have hfz21_2 := blk_frozen BK359.out 2; have hfz21_3 := blk_frozen BK359.out 3; have hfz21_4 := blk_frozen BK359.out 4; have hfz21_5 := blk_frozen BK359.out 5; have hfz21_6 := blk_frozen BK359.out 6; have hfz21_7 := blk_frozen BK359.out 7; have hfz21_8 := blk_frozen BK359.out 8))
    have n0_ : Aside0 ((((((((((w18.setCell ⟨gb359, 0, none⟩ (.int .u32 t349)).setCell ⟨gb359, 1, none⟩ (.int .u32 t350)).setCell ⟨gb359, 2, none⟩ (.int .u64 t351)).setCell ⟨gb359, 3, none⟩ (.int .u64 t352)).setCell ⟨gb359, 4, none⟩ (.int .u64 t353)).setCell ⟨gb359, 5, none⟩ (.int .u64 t354)).setCell ⟨gb359, 6, none⟩ (.int .u64 t355)).setCell ⟨gb359, 7, none⟩ (.int .u64 t356)).setCell ⟨gb359, 8, none⟩ (.int .u64 t357)).heap[gb336]? = some (.cells #[.int .u32 a0_0, .int .u32 a0_1, .int .u64 a0_2, .int .u64 a0_3, .int .u64 a0_4, .int .u64 a0_5, .int .u64 a0_6, .int .u64 a0_7, .int .u64 a0_8] 26 (0, 0))) := ⟨by (with_reducible repeat (first | refine blk_drewN ?_ _ | refine blk_drew ?_ | refine blk_alloc ?_ _)); refine blk_far ?_ NB336_359.out _; (with_reducible repeat (first | refine blk_drewN ?_ _ | refine blk_drew ?_ | refine blk_alloc ?_ _)); refine blk_far ?_ NB336_359.out _; (with_reducible repeat (first | refine blk_drewN ?_ _ | refine blk_drew ?_ | refine blk_alloc ?_ _)); refine blk_far ?_ NB336_359.out _; (with_reducible repeat (first | refine blk_drewN ?_ _ | refine blk_drew ?_ | refine blk_alloc ?_ _)); refine blk_far ?_ NB336_359.out _; (with_reducible repeat (first | refine blk_drewN ?_ _ | refine blk_drew ?_ | refine blk_alloc ?_ _)); refine blk_far ?_ NB336_359.out _; (with_reducible repeat (first | refine blk_drewN ?_ _ | refine blk_drew ?_ | refine blk_alloc ?_ _)); refine blk_far ?_ NB336_359.out _; (with_reducible repeat (first | refine blk_drewN ?_ _ | refine blk_drew ?_ | refine blk_alloc ?_ _)); refine blk_far ?_ NB336_359.out _; (with_reducible repeat (first | refine blk_drewN ?_ _ | refine blk_drew ?_ | refine blk_alloc ?_ _)); refine blk_far ?_ NB336_359.out _; (with_reducible repeat (first | refine blk_drewN ?_ _ | refine blk_drew ?_ | refine blk_alloc ?_ _)); refine blk_far ?_ NB336_359.out _; (with_reducible repeat (first | refine blk_drewN ?_ _ | refine blk_drew ?_ | refine blk_alloc ?_ _)); exact BK336.out⟩
    have n1_ : Aside0 ((((((((((w18.setCell ⟨gb359, 0, none⟩ (.int .u32 t349)).setCell ⟨gb359, 1, none⟩ (.int .u32 t350)).setCell ⟨gb359, 2, none⟩ (.int .u64 t351)).setCell ⟨gb359, 3, none⟩ (.int .u64 t352)).setCell ⟨gb359, 4, none⟩ (.int .u64 t353)).setCell ⟨gb359, 5, none⟩ (.int .u64 t354)).setCell ⟨gb359, 6, none⟩ (.int .u64 t355)).setCell ⟨gb359, 7, none⟩ (.int .u64 t356)).setCell ⟨gb359, 8, none⟩ (.int .u64 t357)).heap[gb348]? = some (.cells #[.int .u32 t338, .int .u32 t339, .int .u64 t340, .int .u64 t341, .int .u64 t342, .int .u64 t343, .int .u64 t344, .int .u64 t345, .int .u64 t346] 26 (0, 0))) := ⟨by (with_reducible repeat (first | refine blk_drewN ?_ _ | refine blk_drew ?_ | refine blk_alloc ?_ _)); refine blk_far ?_ NB348_359.out _; (with_reducible repeat (first | refine blk_drewN ?_ _ | refine blk_drew ?_ | refine blk_alloc ?_ _)); refine blk_far ?_ NB348_359.out _; (with_reducible repeat (first | refine blk_drewN ?_ _ | refine blk_drew ?_ | refine blk_alloc ?_ _)); refine blk_far ?_ NB348_359.out _; (with_reducible repeat (first | refine blk_drewN ?_ _ | refine blk_drew ?_ | refine blk_alloc ?_ _)); refine blk_far ?_ NB348_359.out _; (with_reducible repeat (first | refine blk_drewN ?_ _ | refine blk_drew ?_ | refine blk_alloc ?_ _)); refine blk_far ?_ NB348_359.out _; (with_reducible repeat (first | refine blk_drewN ?_ _ | refine blk_drew ?_ | refine blk_alloc ?_ _)); refine blk_far ?_ NB348_359.out _; (with_reducible repeat (first | refine blk_drewN ?_ _ | refine blk_drew ?_ | refine blk_alloc ?_ _)); refine blk_far ?_ NB348_359.out _; (with_reducible repeat (first | refine blk_drewN ?_ _ | refine blk_drew ?_ | refine blk_alloc ?_ _)); refine blk_far ?_ NB348_359.out _; (with_reducible repeat (first | refine blk_drewN ?_ _ | refine blk_drew ?_ | refine blk_alloc ?_ _)); refine blk_far ?_ NB348_359.out _; (with_reducible repeat (first | refine blk_drewN ?_ _ | refine blk_drew ?_ | refine blk_alloc ?_ _)); exact BK348.out⟩
    have n2_ : Aside0 ((((((((((w18.setCell ⟨gb359, 0, none⟩ (.int .u32 t349)).setCell ⟨gb359, 1, none⟩ (.int .u32 t350)).setCell ⟨gb359, 2, none⟩ (.int .u64 t351)).setCell ⟨gb359, 3, none⟩ (.int .u64 t352)).setCell ⟨gb359, 4, none⟩ (.int .u64 t353)).setCell ⟨gb359, 5, none⟩ (.int .u64 t354)).setCell ⟨gb359, 6, none⟩ (.int .u64 t355)).setCell ⟨gb359, 7, none⟩ (.int .u64 t356)).setCell ⟨gb359, 8, none⟩ (.int .u64 t357)).heap[gb359]? = some (.cells #[.int .u32 t349, .int .u32 t350, .int .u64 t351, .int .u64 t352, .int .u64 t353, .int .u64 t354, .int .u64 t355, .int .u64 t356, .int .u64 t357] 26 (0, 0))) := ⟨by (with_reducible repeat (first | refine blk_drewN ?_ _ | refine blk_drew ?_ | refine blk_alloc ?_ _)); refine blk_put (cs := #[.int .u32 t349, .int .u32 t350, .int .u64 t351, .int .u64 t352, .int .u64 t353, .int .u64 t354, .int .u64 t355, .int .u64 t356, .int .u64 0]) ?_ 8 _ rfl; (with_reducible repeat (first | refine blk_drewN ?_ _ | refine blk_drew ?_ | refine blk_alloc ?_ _)); refine blk_put (cs := #[.int .u32 t349, .int .u32 t350, .int .u64 t351, .int .u64 t352, .int .u64 t353, .int .u64 t354, .int .u64 t355, .int .u64 0, .int .u64 0]) ?_ 7 _ rfl; (with_reducible repeat (first | refine blk_drewN ?_ _ | refine blk_drew ?_ | refine blk_alloc ?_ _)); refine blk_put (cs := #[.int .u32 t349, .int .u32 t350, .int .u64 t351, .int .u64 t352, .int .u64 t353, .int .u64 t354, .int .u64 0, .int .u64 0, .int .u64 0]) ?_ 6 _ rfl; (with_reducible repeat (first | refine blk_drewN ?_ _ | refine blk_drew ?_ | refine blk_alloc ?_ _)); refine blk_put (cs := #[.int .u32 t349, .int .u32 t350, .int .u64 t351, .int .u64 t352, .int .u64 t353, .int .u64 0, .int .u64 0, .int .u64 0, .int .u64 0]) ?_ 5 _ rfl; (with_reducible repeat (first | refine blk_drewN ?_ _ | refine blk_drew ?_ | refine blk_alloc ?_ _)); refine blk_put (cs := #[.int .u32 t349, .int .u32 t350, .int .u64 t351, .int .u64 t352, .int .u64 0, .int .u64 0, .int .u64 0, .int .u64 0, .int .u64 0]) ?_ 4 _ rfl; (with_reducible repeat (first | refine blk_drewN ?_ _ | refine blk_drew ?_ | refine blk_alloc ?_ _)); refine blk_put (cs := #[.int .u32 t349, .int .u32 t350, .int .u64 t351, .int .u64 0, .int .u64 0, .int .u64 0, .int .u64 0, .int .u64 0, .int .u64 0]) ?_ 3 _ rfl; (with_reducible repeat (first | refine blk_drewN ?_ _ | refine blk_drew ?_ | refine blk_alloc ?_ _)); refine blk_put (cs := #[.int .u32 t349, .int .u32 t350, .int .u64 0, .int .u64 0, .int .u64 0, .int .u64 0, .int .u64 0, .int .u64 0, .int .u64 0]) ?_ 2 _ rfl; (with_reducible repeat (first | refine blk_drewN ?_ _ | refine blk_drew ?_ | refine blk_alloc ?_ _)); refine blk_put (cs := #[.int .u32 t349, .int .u32 0, .int .u64 0, .int .u64 0, .int .u64 0, .int .u64 0, .int .u64 0, .int .u64 0, .int .u64 0]) ?_ 1 _ rfl; (with_reducible repeat (first | refine blk_drewN ?_ _ | refine blk_drew ?_ | refine blk_alloc ?_ _)); refine blk_put (cs := #[.int .u32 0, .int .u32 0, .int .u64 0, .int .u64 0, .int .u64 0, .int .u64 0, .int .u64 0, .int .u64 0, .int .u64 0]) ?_ 0 _ rfl; (with_reducible repeat (first | refine blk_drewN ?_ _ | refine blk_drew ?_ | refine blk_alloc ?_ _)); exact BK359.out⟩
    have n3_ : Aside0 (Below w.heap.size w (((((((((w18.setCell ⟨gb359, 0, none⟩ (.int .u32 t349)).setCell ⟨gb359, 1, none⟩ (.int .u32 t350)).setCell ⟨gb359, 2, none⟩ (.int .u64 t351)).setCell ⟨gb359, 3, none⟩ (.int .u64 t352)).setCell ⟨gb359, 4, none⟩ (.int .u64 t353)).setCell ⟨gb359, 5, none⟩ (.int .u64 t354)).setCell ⟨gb359, 6, none⟩ (.int .u64 t355)).setCell ⟨gb359, 7, none⟩ (.int .u64 t356)).setCell ⟨gb359, 8, none⟩ (.int .u64 t357))) := ⟨by repeat (first | (with_reducible first | exact HB.out | apply below_alloc | apply pw_below_drewN | apply below_drew1 | refine below_set ?_ GE336.out | refine below_set ?_ GE348.out | refine below_set ?_ GE359.out) | exact HB.out)⟩
    (try clear BK336)
    (try clear BK348)
    (try clear BK359)
    (try clear HB)
    generalize (((((((((w18.setCell ⟨gb359, 0, none⟩ (.int .u32 t349)).setCell ⟨gb359, 1, none⟩ (.int .u32 t350)).setCell ⟨gb359, 2, none⟩ (.int .u64 t351)).setCell ⟨gb359, 3, none⟩ (.int .u64 t352)).setCell ⟨gb359, 4, none⟩ (.int .u64 t353)).setCell ⟨gb359, 5, none⟩ (.int .u64 t354)).setCell ⟨gb359, 6, none⟩ (.int .u64 t355)).setCell ⟨gb359, 7, none⟩ (.int .u64 t356)).setCell ⟨gb359, 8, none⟩ (.int .u64 t357)) = w22 at n0_ n1_ n2_ n3_ ⊢
    have BK336 := n0_
    have BK348 := n1_
    have BK359 := n2_
    have HB := n3_
    clear n0_ n1_ n2_ n3_
    have n0_ := Aside0.mk (blk_drew BK336.out)
    have n1_ := Aside0.mk (blk_drew BK348.out)
    have n2_ := Aside0.mk (blk_drew BK359.out)
    have n3_ := Aside0.mk (below_drew1 HB.out)
    clear BK336
    clear BK348
    clear BK359
    clear HB
    have BK336 := n0_
    have BK348 := n1_
    have BK359 := n2_
    have HB := n3_
    clear n0_ n1_ n2_ n3_
    refine start_ (n := 21) (S := fun w' => w'.cell? ⟨gb336, 0, none⟩ = some (.int .u32 a0_0) ∧ w'.cell? ⟨gb336, 1, none⟩ = some (.int .u32 a0_1) ∧ w'.cell? ⟨gb336, 2, none⟩ = some (.int .u64 a0_2) ∧ w'.cell? ⟨gb336, 3, none⟩ = some (.int .u64 a0_3) ∧ w'.cell? ⟨gb336, 4, none⟩ = some (.int .u64 a0_4) ∧ w'.cell? ⟨gb336, 5, none⟩ = some (.int .u64 a0_5) ∧ w'.cell? ⟨gb336, 6, none⟩ = some (.int .u64 a0_6) ∧ w'.cell? ⟨gb336, 7, none⟩ = some (.int .u64 a0_7) ∧ w'.cell? ⟨gb336, 8, none⟩ = some (.int .u64 a0_8) ∧ w'.cell? ⟨gb348, 0, none⟩ = some (.int .u32 t338) ∧ w'.cell? ⟨gb348, 1, none⟩ = some (.int .u32 t339) ∧ w'.cell? ⟨gb348, 2, none⟩ = some (.int .u64 t340) ∧ w'.cell? ⟨gb348, 3, none⟩ = some (.int .u64 t341) ∧ w'.cell? ⟨gb348, 4, none⟩ = some (.int .u64 t342) ∧ w'.cell? ⟨gb348, 5, none⟩ = some (.int .u64 t343) ∧ w'.cell? ⟨gb348, 6, none⟩ = some (.int .u64 t344) ∧ w'.cell? ⟨gb348, 7, none⟩ = some (.int .u64 t345) ∧ w'.cell? ⟨gb348, 8, none⟩ = some (.int .u64 t346) ∧ w'.cell? ⟨gb359, 0, none⟩ = some (.int .u32 t349) ∧ w'.cell? ⟨gb359, 1, none⟩ = some (.int .u32 t350) ∧ w'.cell? ⟨gb359, 2, none⟩ = some (.int .u64 t351) ∧ w'.cell? ⟨gb359, 3, none⟩ = some (.int .u64 t352) ∧ w'.cell? ⟨gb359, 4, none⟩ = some (.int .u64 t353) ∧ w'.cell? ⟨gb359, 5, none⟩ = some (.int .u64 t354) ∧ w'.cell? ⟨gb359, 6, none⟩ = some (.int .u64 t355) ∧ w'.cell? ⟨gb359, 7, none⟩ = some (.int .u64 t356) ∧ w'.cell? ⟨gb359, 8, none⟩ = some (.int .u64 t357)) (ds := []) #[false, false, false, false, false, false, false, false, false, false, false, false, false, false, false, false, false, false, false, false, false] (by kernel_rfl) rfl rfl ⟨(blk_cell BK336.out 0).trans rfl, (blk_cell BK336.out 1).trans rfl, (blk_cell BK336.out 2).trans rfl, (blk_cell BK336.out 3).trans rfl, (blk_cell BK336.out 4).trans rfl, (blk_cell BK336.out 5).trans rfl, (blk_cell BK336.out 6).trans rfl, (blk_cell BK336.out 7).trans rfl, (blk_cell BK336.out 8).trans rfl, (blk_cell BK348.out 0).trans rfl, (blk_cell BK348.out 1).trans rfl, (blk_cell BK348.out 2).trans rfl, (blk_cell BK348.out 3).trans rfl, (blk_cell BK348.out 4).trans rfl, (blk_cell BK348.out 5).trans rfl, (blk_cell BK348.out 6).trans rfl, (blk_cell BK348.out 7).trans rfl, (blk_cell BK348.out 8).trans rfl, (blk_cell BK359.out 0).trans rfl, (blk_cell BK359.out 1).trans rfl, (blk_cell BK359.out 2).trans rfl, (blk_cell BK359.out 3).trans rfl, (blk_cell BK359.out 4).trans rfl, (blk_cell BK359.out 5).trans rfl, (blk_cell BK359.out 6).trans rfl, (blk_cell BK359.out 7).trans rfl, (blk_cell BK359.out 8).trans rfl⟩ (fun hHeld => ?_); refine with_tabW fairleadlaw04_DataBytes.tab4 fairleadlaw04_DataBytes.bits4 (fun HT_ HW_ => ?_)
    generalize w22.drew = w23 at BK336 BK348 BK359 HB hHeld ⊢
    refine pure_ (i := 0) (N := some 21) (v := ?_) (a' := ?_) #[true, false, false, false, false, false, false, false, false, false, false, false, false, false, false, false, false, false, false, false, false] rfl rfl (any_of HT_.out (by kernel_rfl)) (fun _ _ _ h => h) (Or.inl ⟨by rfl, ?_⟩) ?_ ?_
    rotate_left
    ·intro w'
     go_simp
     with_reducible rfl
    rotate_left
    ·simp only [Act.put, List.setIfInBounds_toArray, List.set_cons_zero, List.set_cons_succ, i64_w, i32_w]
     rfl
    refine pure_ (i := 1) (N := some 22) (v := ?_) (a' := ?_) #[true, true, false, false, false, false, false, false, false, false, false, false, false, false, false, false, false, false, false, false, false] rfl rfl (any_of HT_.out (by kernel_rfl)) (fun _ _ _ h => h) (Or.inl ⟨by rfl, ?_⟩) ?_ ?_
    rotate_left
    ·intro w'
     go_simp
     with_reducible rfl
    rotate_left
    ·simp only [Act.put, List.setIfInBounds_toArray, List.set_cons_zero, List.set_cons_succ, i64_w, i32_w]
     rfl
    refine take_ (i := 2) (N := some 23) (v := ?_) (a' := ?_) #[true, true, true, false, false, false, false, false, false, false, false, false, false, false, false, false, false, false, false, false, false] rfl rfl (take_ofW HT_.out HW_.out (by kernel_rfl)) (fun _ _ _ h => h) (Or.inl ⟨by rfl, ?_⟩) hHeld ?_ ?_
    rotate_left
    ·rintro w' ⟨s0, s1, s2, s3, s4, s5, s6, s7, s8, s9, s10, s11, s12, s13, s14, s15, s16, s17, s18, s19, s20, s21, s22, s23, s24, s25, s26⟩
     go_simp
     with_reducible rfl
    rotate_left
    ·simp only [Act.put, List.setIfInBounds_toArray, List.set_cons_zero, List.set_cons_succ, i64_w, i32_w]
     rfl
    refine take_ (i := 5) (N := some 26) (v := ?_) (a' := ?_) #[true, true, true, false, false, true, false, false, false, false, false, false, false, false, false, false, false, false, false, false, false] rfl rfl (take_ofW HT_.out HW_.out (by kernel_rfl)) (fun _ _ _ h => h) (Or.inl ⟨by rfl, ?_⟩) hHeld ?_ ?_
    rotate_left
    ·rintro w' ⟨s0, s1, s2, s3, s4, s5, s6, s7, s8, s9, s10, s11, s12, s13, s14, s15, s16, s17, s18, s19, s20, s21, s22, s23, s24, s25, s26⟩
     go_simp
     with_reducible rfl
    rotate_left
    ·simp only [Act.put, List.setIfInBounds_toArray, List.set_cons_zero, List.set_cons_succ, i64_w, i32_w]
     rfl
    refine one_ (i := 3) (N := some 24) #[true, true, true, true, false, true, false, false, false, false, false, false, false, false, false, false, false, false, false, false, false] rfl rfl (one_of HT_.out (by kernel_rfl)) (by decide) (fun K hK => ?_)
    refine goes_ Try.func10 (by kernel_rfl) rfl #[.agg #[.int .u32 a0_0, .int .u32 a0_1, .int .u64 a0_2, .int .u64 a0_3, .int .u64 a0_4, .int .u64 a0_5, .int .u64 a0_6, .int .u64 a0_7, .int .u64 a0_8]] (by rfl) rfl rfl (by (try simp only [List.map_toArray, List.map_cons, List.map_nil]); first | done | rfl | (simp only [List.length_drop, List.length_take]; rfl)) ?_
    with_reducible refine (data_Bytes.calls k a0_0 a0_1 a0_2 a0_3 a0_4 a0_5 a0_6 a0_7 a0_8 t360 _ A7.out).mono ?_
    rintro e w24 ⟨v361, rfl, ho0, hb⟩
    refine ⟨_, rfl, ?_⟩
    have n0_ := Aside0.mk (Kd.R_lower ho0 (below_size (by repeat (first | (with_reducible first | exact HB.out | apply below_alloc | apply pw_below_drewN | apply below_drew1 | refine below_set ?_ GE336.out | refine below_set ?_ GE348.out | refine below_set ?_ GE359.out) | exact HB.out))))
    have n1_ := Aside0.mk (blk_below (g := gb336) (o := .cells #[.int .u32 a0_0, .int .u32 a0_1, .int .u64 a0_2, .int .u64 a0_3, .int .u64 a0_4, .int .u64 a0_5, .int .u64 a0_6, .int .u64 a0_7, .int .u64 a0_8] 26 (0, 0)) (by (with_reducible repeat (first | refine blk_drewN ?_ _ | refine blk_drew ?_ | refine blk_alloc ?_ _)); exact BK336.out) hb)
    have n2_ := Aside0.mk (blk_below (g := gb348) (o := .cells #[.int .u32 t338, .int .u32 t339, .int .u64 t340, .int .u64 t341, .int .u64 t342, .int .u64 t343, .int .u64 t344, .int .u64 t345, .int .u64 t346] 26 (0, 0)) (by (with_reducible repeat (first | refine blk_drewN ?_ _ | refine blk_drew ?_ | refine blk_alloc ?_ _)); exact BK348.out) hb)
    have n3_ := Aside0.mk (blk_below (g := gb359) (o := .cells #[.int .u32 t349, .int .u32 t350, .int .u64 t351, .int .u64 t352, .int .u64 t353, .int .u64 t354, .int .u64 t355, .int .u64 t356, .int .u64 t357] 26 (0, 0)) (by (with_reducible repeat (first | refine blk_drewN ?_ _ | refine blk_drew ?_ | refine blk_alloc ?_ _)); exact BK359.out) hb)
    have n4_ := Aside0.mk (below_step (by repeat (first | (with_reducible first | exact HB.out | apply below_alloc | apply pw_below_drewN | apply below_drew1 | refine below_set ?_ GE336.out | refine below_set ?_ GE348.out | refine below_set ?_ GE359.out) | exact HB.out)) hb)
    clear BK336
    clear BK348
    clear BK359
    clear HB
    have HO362 := n0_
    have BK336 := n1_
    have BK348 := n2_
    have BK359 := n3_
    have HB := n4_
    clear n0_ n1_ n2_ n3_ n4_
    (try clear hb)
    (try clear hb2)
    (try clear hk)
    (try clear hi)
    (try clear ho0)
    refine hK.out _ _ ⟨(blk_cell BK336.out 0).trans rfl, (blk_cell BK336.out 1).trans rfl, (blk_cell BK336.out 2).trans rfl, (blk_cell BK336.out 3).trans rfl, (blk_cell BK336.out 4).trans rfl, (blk_cell BK336.out 5).trans rfl, (blk_cell BK336.out 6).trans rfl, (blk_cell BK336.out 7).trans rfl, (blk_cell BK336.out 8).trans rfl, (blk_cell BK348.out 0).trans rfl, (blk_cell BK348.out 1).trans rfl, (blk_cell BK348.out 2).trans rfl, (blk_cell BK348.out 3).trans rfl, (blk_cell BK348.out 4).trans rfl, (blk_cell BK348.out 5).trans rfl, (blk_cell BK348.out 6).trans rfl, (blk_cell BK348.out 7).trans rfl, (blk_cell BK348.out 8).trans rfl, (blk_cell BK359.out 0).trans rfl, (blk_cell BK359.out 1).trans rfl, (blk_cell BK359.out 2).trans rfl, (blk_cell BK359.out 3).trans rfl, (blk_cell BK359.out 4).trans rfl, (blk_cell BK359.out 5).trans rfl, (blk_cell BK359.out 6).trans rfl, (blk_cell BK359.out 7).trans rfl, (blk_cell BK359.out 8).trans rfl⟩ (fun hHeld => ?_)
    clear hK K
    refine norm_ (a' := ?_) ?_ ?_
    rotate_left
    ·show Act.put _ (some 24) _ = _
     simp only [Act.put, List.setIfInBounds_toArray, List.set_cons_zero, List.set_cons_succ, i64_w, i32_w]
     rfl
    refine join_ (σ := Value) 13 #[true, true, true, true, true, true, true, true, false, false, false, false, false, false, false, false, false, false, false, false, false] (fun s_ => [(25, .string (strOfNums t360)), (27, s_), (28, .string (strOfNums t363))]) (fun s_ w' => (w'.cell? ⟨gb336, 0, none⟩ = some (.int .u32 a0_0) ∧ w'.cell? ⟨gb336, 1, none⟩ = some (.int .u32 a0_1) ∧ w'.cell? ⟨gb336, 2, none⟩ = some (.int .u64 a0_2) ∧ w'.cell? ⟨gb336, 3, none⟩ = some (.int .u64 a0_3) ∧ w'.cell? ⟨gb336, 4, none⟩ = some (.int .u64 a0_4) ∧ w'.cell? ⟨gb336, 5, none⟩ = some (.int .u64 a0_5) ∧ w'.cell? ⟨gb336, 6, none⟩ = some (.int .u64 a0_6) ∧ w'.cell? ⟨gb336, 7, none⟩ = some (.int .u64 a0_7) ∧ w'.cell? ⟨gb336, 8, none⟩ = some (.int .u64 a0_8) ∧ w'.cell? ⟨gb348, 0, none⟩ = some (.int .u32 t338) ∧ w'.cell? ⟨gb348, 1, none⟩ = some (.int .u32 t339) ∧ w'.cell? ⟨gb348, 2, none⟩ = some (.int .u64 t340) ∧ w'.cell? ⟨gb348, 3, none⟩ = some (.int .u64 t341) ∧ w'.cell? ⟨gb348, 4, none⟩ = some (.int .u64 t342) ∧ w'.cell? ⟨gb348, 5, none⟩ = some (.int .u64 t343) ∧ w'.cell? ⟨gb348, 6, none⟩ = some (.int .u64 t344) ∧ w'.cell? ⟨gb348, 7, none⟩ = some (.int .u64 t345) ∧ w'.cell? ⟨gb348, 8, none⟩ = some (.int .u64 t346) ∧ w'.cell? ⟨gb359, 0, none⟩ = some (.int .u32 t349) ∧ w'.cell? ⟨gb359, 1, none⟩ = some (.int .u32 t350) ∧ w'.cell? ⟨gb359, 2, none⟩ = some (.int .u64 t351) ∧ w'.cell? ⟨gb359, 3, none⟩ = some (.int .u64 t352) ∧ w'.cell? ⟨gb359, 4, none⟩ = some (.int .u64 t353) ∧ w'.cell? ⟨gb359, 5, none⟩ = some (.int .u64 t354) ∧ w'.cell? ⟨gb359, 6, none⟩ = some (.int .u64 t355) ∧ w'.cell? ⟨gb359, 7, none⟩ = some (.int .u64 t356) ∧ w'.cell? ⟨gb359, 8, none⟩ = some (.int .u64 t357)) ∧ (Kd.R (Kd.int .u8) 5 w' w.heap.size (fun k_ => some k_ ≠ (s_ : Value).ownBlock) v361 t360) ∧ (Kd.R (Kd.int .u8) 5 w' w.heap.size (fun k_ => some k_ ≠ (v361 : Value).ownBlock) s_ t363) ∧ (w'.heap[gb336]? = some (.cells #[.int .u32 a0_0, .int .u32 a0_1, .int .u64 a0_2, .int .u64 a0_3, .int .u64 a0_4, .int .u64 a0_5, .int .u64 a0_6, .int .u64 a0_7, .int .u64 a0_8] 26 (0, 0))) ∧ (w'.heap[gb348]? = some (.cells #[.int .u32 t338, .int .u32 t339, .int .u64 t340, .int .u64 t341, .int .u64 t342, .int .u64 t343, .int .u64 t344, .int .u64 t345, .int .u64 t346] 26 (0, 0))) ∧ (w'.heap[gb359]? = some (.cells #[.int .u32 t349, .int .u32 t350, .int .u64 t351, .int .u64 t352, .int .u64 t353, .int .u64 t354, .int .u64 t355, .int .u64 t356, .int .u64 t357] 26 (0, 0))) ∧ (Below w.heap.size w w')) ?_ ?_
    rotate_left
    ·intro hCont
     refine two_ (i := 4) (j := 6) (Ni := some 25) (Nj := some 27) #[true, true, true, true, true, true, false, false, false, false, false, false, false, false, false, false, false, false, false, false, false] #[true, true, true, true, false, true, true, false, false, false, false, false, false, false, false, false, false, false, false, false, false] rfl rfl rfl rfl (two_of HT_.out (by kernel_rfl)) (by decide) (by decide) (fun K hK => ?_) (fun K hK => ?_)
     ·skip
      have hcv25 := own_string (P := Try.prog) Try.underlying28 Try.underlying5 Try.underlying9 (Kd.own_of_R HO362.out)
      refine value_ (w1 := ?_) (v := ?_) (by rfl) rfl ?_ ?_
      rotate_left 2
      ·go_simp
       constructor
       ·rfl
       ·rfl
      clear hcv25
      refine hK.out _ _ ⟨(blk_cell BK336.out 0).trans rfl, (blk_cell BK336.out 1).trans rfl, (blk_cell BK336.out 2).trans rfl, (blk_cell BK336.out 3).trans rfl, (blk_cell BK336.out 4).trans rfl, (blk_cell BK336.out 5).trans rfl, (blk_cell BK336.out 6).trans rfl, (blk_cell BK336.out 7).trans rfl, (blk_cell BK336.out 8).trans rfl, (blk_cell BK348.out 0).trans rfl, (blk_cell BK348.out 1).trans rfl, (blk_cell BK348.out 2).trans rfl, (blk_cell BK348.out 3).trans rfl, (blk_cell BK348.out 4).trans rfl, (blk_cell BK348.out 5).trans rfl, (blk_cell BK348.out 6).trans rfl, (blk_cell BK348.out 7).trans rfl, (blk_cell BK348.out 8).trans rfl, (blk_cell BK359.out 0).trans rfl, (blk_cell BK359.out 1).trans rfl, (blk_cell BK359.out 2).trans rfl, (blk_cell BK359.out 3).trans rfl, (blk_cell BK359.out 4).trans rfl, (blk_cell BK359.out 5).trans rfl, (blk_cell BK359.out 6).trans rfl, (blk_cell BK359.out 7).trans rfl, (blk_cell BK359.out 8).trans rfl⟩ (fun hHeld => ?_)
      clear hK K
      refine norm_ (a' := ?_) ?_ ?_
      rotate_left
      ·show Act.put _ (some 25) _ = _
       simp only [Act.put, List.setIfInBounds_toArray, List.set_cons_zero, List.set_cons_succ, i64_w, i32_w]
       rfl
      refine one_ (i := 6) (N := some 27) #[true, true, true, true, true, true, true, false, false, false, false, false, false, false, false, false, false, false, false, false, false] rfl rfl (one_of HT_.out (by kernel_rfl)) (by decide) (fun K hK => ?_)
      refine goes_ Try.func17 (by kernel_rfl) rfl #[.agg #[.int .u32 a0_0, .int .u32 a0_1, .int .u64 a0_2, .int .u64 a0_3, .int .u64 a0_4, .int .u64 a0_5, .int .u64 a0_6, .int .u64 a0_7, .int .u64 a0_8]] (by rfl) rfl rfl (by (try simp only [List.map_toArray, List.map_cons, List.map_nil]); first | done | rfl | (simp only [List.length_drop, List.length_take]; rfl)) ?_
      with_reducible refine (fairleadref04_Bytes.calls k a0_0 a0_1 a0_2 a0_3 a0_4 a0_5 a0_6 a0_7 a0_8 t363 _ A8.out).mono ?_
      rintro e w26 ⟨v364, rfl, ho0, hb⟩
      refine ⟨_, rfl, ?_⟩
      have n0_ := Aside0.mk (Kd.R_elder' (by (with_reducible repeat (first | apply Kd.R_alloc | apply Kd.R_drewN | apply Kd.R_drew)); exact HO362.out) (Kd.R_base ho0) hb)
      have n1_ := Aside0.mk (Kd.R_lower (Kd.R_new' ho0 (Kd.R_lt (by (with_reducible repeat (first | apply Kd.R_alloc | apply Kd.R_drewN | apply Kd.R_drew)); exact HO362.out))) (below_size (by repeat (first | (with_reducible first | exact HB.out | apply below_alloc | apply pw_below_drewN | apply below_drew1 | refine below_set ?_ GE336.out | refine below_set ?_ GE348.out | refine below_set ?_ GE359.out) | exact HB.out))))
      have n2_ := Aside0.mk (blk_below (g := gb336) (o := .cells #[.int .u32 a0_0, .int .u32 a0_1, .int .u64 a0_2, .int .u64 a0_3, .int .u64 a0_4, .int .u64 a0_5, .int .u64 a0_6, .int .u64 a0_7, .int .u64 a0_8] 26 (0, 0)) (by (with_reducible repeat (first | refine blk_drewN ?_ _ | refine blk_drew ?_ | refine blk_alloc ?_ _)); exact BK336.out) hb)
      have n3_ := Aside0.mk (blk_below (g := gb348) (o := .cells #[.int .u32 t338, .int .u32 t339, .int .u64 t340, .int .u64 t341, .int .u64 t342, .int .u64 t343, .int .u64 t344, .int .u64 t345, .int .u64 t346] 26 (0, 0)) (by (with_reducible repeat (first | refine blk_drewN ?_ _ | refine blk_drew ?_ | refine blk_alloc ?_ _)); exact BK348.out) hb)
      have n4_ := Aside0.mk (blk_below (g := gb359) (o := .cells #[.int .u32 t349, .int .u32 t350, .int .u64 t351, .int .u64 t352, .int .u64 t353, .int .u64 t354, .int .u64 t355, .int .u64 t356, .int .u64 t357] 26 (0, 0)) (by (with_reducible repeat (first | refine blk_drewN ?_ _ | refine blk_drew ?_ | refine blk_alloc ?_ _)); exact BK359.out) hb)
      have n5_ := Aside0.mk (below_step (by repeat (first | (with_reducible first | exact HB.out | apply below_alloc | apply pw_below_drewN | apply below_drew1 | refine below_set ?_ GE336.out | refine below_set ?_ GE348.out | refine below_set ?_ GE359.out) | exact HB.out)) hb)
      clear HO362
      clear BK336
      clear BK348
      clear BK359
      clear HB
      have HO362 := n0_
      have HO365 := n1_
      have BK336 := n2_
      have BK348 := n3_
      have BK359 := n4_
      have HB := n5_
      clear n0_ n1_ n2_ n3_ n4_ n5_
      (try clear hb)
      (try clear hb2)
      (try clear hk)
      (try clear hi)
      (try clear ho0)
      refine hK.out _ _ ⟨(blk_cell BK336.out 0).trans rfl, (blk_cell BK336.out 1).trans rfl, (blk_cell BK336.out 2).trans rfl, (blk_cell BK336.out 3).trans rfl, (blk_cell BK336.out 4).trans rfl, (blk_cell BK336.out 5).trans rfl, (blk_cell BK336.out 6).trans rfl, (blk_cell BK336.out 7).trans rfl, (blk_cell BK336.out 8).trans rfl, (blk_cell BK348.out 0).trans rfl, (blk_cell BK348.out 1).trans rfl, (blk_cell BK348.out 2).trans rfl, (blk_cell BK348.out 3).trans rfl, (blk_cell BK348.out 4).trans rfl, (blk_cell BK348.out 5).trans rfl, (blk_cell BK348.out 6).trans rfl, (blk_cell BK348.out 7).trans rfl, (blk_cell BK348.out 8).trans rfl, (blk_cell BK359.out 0).trans rfl, (blk_cell BK359.out 1).trans rfl, (blk_cell BK359.out 2).trans rfl, (blk_cell BK359.out 3).trans rfl, (blk_cell BK359.out 4).trans rfl, (blk_cell BK359.out 5).trans rfl, (blk_cell BK359.out 6).trans rfl, (blk_cell BK359.out 7).trans rfl, (blk_cell BK359.out 8).trans rfl⟩ (fun hHeld => ?_)
      clear hK K
      refine norm_ (a' := ?_) ?_ ?_
      rotate_left
      ·show Act.put _ (some 27) _ = _
       simp only [Act.put, List.setIfInBounds_toArray, List.set_cons_zero, List.set_cons_succ, i64_w, i32_w]
       rfl
      refine one_ (i := 7) (N := some 28) #[true, true, true, true, true, true, true, true, false, false, false, false, false, false, false, false, false, false, false, false, false] rfl rfl (one_of HT_.out (by kernel_rfl)) (by decide) (fun K hK => ?_)
      have hcv27 := own_string (P := Try.prog) Try.underlying28 Try.underlying5 Try.underlying9 (Kd.own_of_R HO365.out)
      refine value_ (w1 := ?_) (v := ?_) (by rfl) rfl ?_ ?_
      rotate_left 2
      ·go_simp
       constructor
       ·rfl
       ·rfl
      clear hcv27
      refine hK.out _ _ ⟨(blk_cell BK336.out 0).trans rfl, (blk_cell BK336.out 1).trans rfl, (blk_cell BK336.out 2).trans rfl, (blk_cell BK336.out 3).trans rfl, (blk_cell BK336.out 4).trans rfl, (blk_cell BK336.out 5).trans rfl, (blk_cell BK336.out 6).trans rfl, (blk_cell BK336.out 7).trans rfl, (blk_cell BK336.out 8).trans rfl, (blk_cell BK348.out 0).trans rfl, (blk_cell BK348.out 1).trans rfl, (blk_cell BK348.out 2).trans rfl, (blk_cell BK348.out 3).trans rfl, (blk_cell BK348.out 4).trans rfl, (blk_cell BK348.out 5).trans rfl, (blk_cell BK348.out 6).trans rfl, (blk_cell BK348.out 7).trans rfl, (blk_cell BK348.out 8).trans rfl, (blk_cell BK359.out 0).trans rfl, (blk_cell BK359.out 1).trans rfl, (blk_cell BK359.out 2).trans rfl, (blk_cell BK359.out 3).trans rfl, (blk_cell BK359.out 4).trans rfl, (blk_cell BK359.out 5).trans rfl, (blk_cell BK359.out 6).trans rfl, (blk_cell BK359.out 7).trans rfl, (blk_cell BK359.out 8).trans rfl⟩ (fun hHeld => ?_)
      clear hK K
      refine norm_ (a' := ?_) ?_ ?_
      rotate_left
      ·show Act.put _ (some 28) _ = _
       simp only [Act.put, List.setIfInBounds_toArray, List.set_cons_zero, List.set_cons_succ, i64_w, i32_w]
       rfl
      exact norm_ (by simp only [putAll, Act.put, List.setIfInBounds_toArray, List.set_cons_zero, List.set_cons_succ] <;> (try simp only [IntKind.wrap_u32])) (hCont (v364) _ ⟨hHeld, (by (with_reducible repeat (first | apply Kd.R_alloc | apply Kd.R_drewN | apply Kd.R_drew)); exact Kd.R_mono HO362.out (fun _ hk => by first | exact hk.2 | exact hk | exact trivial)), (by (with_reducible repeat (first | apply Kd.R_alloc | apply Kd.R_drewN | apply Kd.R_drew)); exact Kd.R_mono HO365.out (fun _ hk => by first | exact hk.2 | exact hk | exact trivial)), (by (with_reducible repeat (first | refine blk_drewN ?_ _ | refine blk_drew ?_ | refine blk_alloc ?_ _)); exact BK336.out), (by (with_reducible repeat (first | refine blk_drewN ?_ _ | refine blk_drew ?_ | refine blk_alloc ?_ _)); exact BK348.out), (by (with_reducible repeat (first | refine blk_drewN ?_ _ | refine blk_drew ?_ | refine blk_alloc ?_ _)); exact BK359.out), (by repeat (first | (with_reducible first | exact HB.out | apply below_alloc | apply pw_below_drewN | apply below_drew1 | refine below_set ?_ GE336.out | refine below_set ?_ GE348.out | refine below_set ?_ GE359.out) | exact HB.out))⟩)
     ·skip
      refine goes_ Try.func17 (by kernel_rfl) rfl #[.agg #[.int .u32 a0_0, .int .u32 a0_1, .int .u64 a0_2, .int .u64 a0_3, .int .u64 a0_4, .int .u64 a0_5, .int .u64 a0_6, .int .u64 a0_7, .int .u64 a0_8]] (by rfl) rfl rfl (by (try simp only [List.map_toArray, List.map_cons, List.map_nil]); first | done | rfl | (simp only [List.length_drop, List.length_take]; rfl)) ?_
      with_reducible refine (fairleadref04_Bytes.calls k a0_0 a0_1 a0_2 a0_3 a0_4 a0_5 a0_6 a0_7 a0_8 t363 _ A8.out).mono ?_
      rintro e w25 ⟨v364, rfl, ho0, hb⟩
      refine ⟨_, rfl, ?_⟩
      have n0_ := Aside0.mk (Kd.R_elder' (by (with_reducible repeat (first | apply Kd.R_alloc | apply Kd.R_drewN | apply Kd.R_drew)); exact HO362.out) (Kd.R_base ho0) hb)
      have n1_ := Aside0.mk (Kd.R_lower (Kd.R_new' ho0 (Kd.R_lt (by (with_reducible repeat (first | apply Kd.R_alloc | apply Kd.R_drewN | apply Kd.R_drew)); exact HO362.out))) (below_size (by repeat (first | (with_reducible first | exact HB.out | apply below_alloc | apply pw_below_drewN | apply below_drew1 | refine below_set ?_ GE336.out | refine below_set ?_ GE348.out | refine below_set ?_ GE359.out) | exact HB.out))))
      have n2_ := Aside0.mk (blk_below (g := gb336) (o := .cells #[.int .u32 a0_0, .int .u32 a0_1, .int .u64 a0_2, .int .u64 a0_3, .int .u64 a0_4, .int .u64 a0_5, .int .u64 a0_6, .int .u64 a0_7, .int .u64 a0_8] 26 (0, 0)) (by (with_reducible repeat (first | refine blk_drewN ?_ _ | refine blk_drew ?_ | refine blk_alloc ?_ _)); exact BK336.out) hb)
      have n3_ := Aside0.mk (blk_below (g := gb348) (o := .cells #[.int .u32 t338, .int .u32 t339, .int .u64 t340, .int .u64 t341, .int .u64 t342, .int .u64 t343, .int .u64 t344, .int .u64 t345, .int .u64 t346] 26 (0, 0)) (by (with_reducible repeat (first | refine blk_drewN ?_ _ | refine blk_drew ?_ | refine blk_alloc ?_ _)); exact BK348.out) hb)
      have n4_ := Aside0.mk (blk_below (g := gb359) (o := .cells #[.int .u32 t349, .int .u32 t350, .int .u64 t351, .int .u64 t352, .int .u64 t353, .int .u64 t354, .int .u64 t355, .int .u64 t356, .int .u64 t357] 26 (0, 0)) (by (with_reducible repeat (first | refine blk_drewN ?_ _ | refine blk_drew ?_ | refine blk_alloc ?_ _)); exact BK359.out) hb)
      have n5_ := Aside0.mk (below_step (by repeat (first | (with_reducible first | exact HB.out | apply below_alloc | apply pw_below_drewN | apply below_drew1 | refine below_set ?_ GE336.out | refine below_set ?_ GE348.out | refine below_set ?_ GE359.out) | exact HB.out)) hb)
      clear HO362
      clear BK336
      clear BK348
      clear BK359
      clear HB
      have HO362 := n0_
      have HO365 := n1_
      have BK336 := n2_
      have BK348 := n3_
      have BK359 := n4_
      have HB := n5_
      clear n0_ n1_ n2_ n3_ n4_ n5_
      (try clear hb)
      (try clear hb2)
      (try clear hk)
      (try clear hi)
      (try clear ho0)
      refine hK.out _ _ ⟨(blk_cell BK336.out 0).trans rfl, (blk_cell BK336.out 1).trans rfl, (blk_cell BK336.out 2).trans rfl, (blk_cell BK336.out 3).trans rfl, (blk_cell BK336.out 4).trans rfl, (blk_cell BK336.out 5).trans rfl, (blk_cell BK336.out 6).trans rfl, (blk_cell BK336.out 7).trans rfl, (blk_cell BK336.out 8).trans rfl, (blk_cell BK348.out 0).trans rfl, (blk_cell BK348.out 1).trans rfl, (blk_cell BK348.out 2).trans rfl, (blk_cell BK348.out 3).trans rfl, (blk_cell BK348.out 4).trans rfl, (blk_cell BK348.out 5).trans rfl, (blk_cell BK348.out 6).trans rfl, (blk_cell BK348.out 7).trans rfl, (blk_cell BK348.out 8).trans rfl, (blk_cell BK359.out 0).trans rfl, (blk_cell BK359.out 1).trans rfl, (blk_cell BK359.out 2).trans rfl, (blk_cell BK359.out 3).trans rfl, (blk_cell BK359.out 4).trans rfl, (blk_cell BK359.out 5).trans rfl, (blk_cell BK359.out 6).trans rfl, (blk_cell BK359.out 7).trans rfl, (blk_cell BK359.out 8).trans rfl⟩ (fun hHeld => ?_)
      clear hK K
      refine norm_ (a' := ?_) ?_ ?_
      rotate_left
      ·show Act.put _ (some 27) _ = _
       simp only [Act.put, List.setIfInBounds_toArray, List.set_cons_zero, List.set_cons_succ, i64_w, i32_w]
       rfl
      refine two_ (i := 4) (j := 7) (Ni := some 25) (Nj := some 28) #[true, true, true, true, true, true, true, false, false, false, false, false, false, false, false, false, false, false, false, false, false] #[true, true, true, true, false, true, true, true, false, false, false, false, false, false, false, false, false, false, false, false, false] rfl rfl rfl rfl (two_of HT_.out (by kernel_rfl)) (by decide) (by decide) (fun K hK => ?_) (fun K hK => ?_)
      ·skip
       have hcv26 := own_string (P := Try.prog) Try.underlying28 Try.underlying5 Try.underlying9 (Kd.own_of_R HO362.out)
       refine value_ (w1 := ?_) (v := ?_) (by rfl) rfl ?_ ?_
       rotate_left 2
       ·go_simp
        constructor
        ·rfl
        ·rfl
       clear hcv26
       refine hK.out _ _ ⟨(blk_cell BK336.out 0).trans rfl, (blk_cell BK336.out 1).trans rfl, (blk_cell BK336.out 2).trans rfl, (blk_cell BK336.out 3).trans rfl, (blk_cell BK336.out 4).trans rfl, (blk_cell BK336.out 5).trans rfl, (blk_cell BK336.out 6).trans rfl, (blk_cell BK336.out 7).trans rfl, (blk_cell BK336.out 8).trans rfl, (blk_cell BK348.out 0).trans rfl, (blk_cell BK348.out 1).trans rfl, (blk_cell BK348.out 2).trans rfl, (blk_cell BK348.out 3).trans rfl, (blk_cell BK348.out 4).trans rfl, (blk_cell BK348.out 5).trans rfl, (blk_cell BK348.out 6).trans rfl, (blk_cell BK348.out 7).trans rfl, (blk_cell BK348.out 8).trans rfl, (blk_cell BK359.out 0).trans rfl, (blk_cell BK359.out 1).trans rfl, (blk_cell BK359.out 2).trans rfl, (blk_cell BK359.out 3).trans rfl, (blk_cell BK359.out 4).trans rfl, (blk_cell BK359.out 5).trans rfl, (blk_cell BK359.out 6).trans rfl, (blk_cell BK359.out 7).trans rfl, (blk_cell BK359.out 8).trans rfl⟩ (fun hHeld => ?_)
       clear hK K
       refine norm_ (a' := ?_) ?_ ?_
       rotate_left
       ·show Act.put _ (some 25) _ = _
        simp only [Act.put, List.setIfInBounds_toArray, List.set_cons_zero, List.set_cons_succ, i64_w, i32_w]
        rfl
       refine one_ (i := 7) (N := some 28) #[true, true, true, true, true, true, true, true, false, false, false, false, false, false, false, false, false, false, false, false, false] rfl rfl (one_of HT_.out (by kernel_rfl)) (by decide) (fun K hK => ?_)
       have hcv27 := own_string (P := Try.prog) Try.underlying28 Try.underlying5 Try.underlying9 (Kd.own_of_R HO365.out)
       refine value_ (w1 := ?_) (v := ?_) (by rfl) rfl ?_ ?_
       rotate_left 2
       ·go_simp
        constructor
        ·rfl
        ·rfl
       clear hcv27
       refine hK.out _ _ ⟨(blk_cell BK336.out 0).trans rfl, (blk_cell BK336.out 1).trans rfl, (blk_cell BK336.out 2).trans rfl, (blk_cell BK336.out 3).trans rfl, (blk_cell BK336.out 4).trans rfl, (blk_cell BK336.out 5).trans rfl, (blk_cell BK336.out 6).trans rfl, (blk_cell BK336.out 7).trans rfl, (blk_cell BK336.out 8).trans rfl, (blk_cell BK348.out 0).trans rfl, (blk_cell BK348.out 1).trans rfl, (blk_cell BK348.out 2).trans rfl, (blk_cell BK348.out 3).trans rfl, (blk_cell BK348.out 4).trans rfl, (blk_cell BK348.out 5).trans rfl, (blk_cell BK348.out 6).trans rfl, (blk_cell BK348.out 7).trans rfl, (blk_cell BK348.out 8).trans rfl, (blk_cell BK359.out 0).trans rfl, (blk_cell BK359.out 1).trans rfl, (blk_cell BK359.out 2).trans rfl, (blk_cell BK359.out 3).trans rfl, (blk_cell BK359.out 4).trans rfl, (blk_cell BK359.out 5).trans rfl, (blk_cell BK359.out 6).trans rfl, (blk_cell BK359.out 7).trans rfl, (blk_cell BK359.out 8).trans rfl⟩ (fun hHeld => ?_)
       clear hK K
       refine norm_ (a' := ?_) ?_ ?_
       rotate_left
       ·show Act.put _ (some 28) _ = _
        simp only [Act.put, List.setIfInBounds_toArray, List.set_cons_zero, List.set_cons_succ, i64_w, i32_w]
        rfl
       exact norm_ (by simp only [putAll, Act.put, List.setIfInBounds_toArray, List.set_cons_zero, List.set_cons_succ] <;> (try simp only [IntKind.wrap_u32])) (hCont (v364) _ ⟨hHeld, (by (with_reducible repeat (first | apply Kd.R_alloc | apply Kd.R_drewN | apply Kd.R_drew)); exact Kd.R_mono HO362.out (fun _ hk => by first | exact hk.2 | exact hk | exact trivial)), (by (with_reducible repeat (first | apply Kd.R_alloc | apply Kd.R_drewN | apply Kd.R_drew)); exact Kd.R_mono HO365.out (fun _ hk => by first | exact hk.2 | exact hk | exact trivial)), (by (with_reducible repeat (first | refine blk_drewN ?_ _ | refine blk_drew ?_ | refine blk_alloc ?_ _)); exact BK336.out), (by (with_reducible repeat (first | refine blk_drewN ?_ _ | refine blk_drew ?_ | refine blk_alloc ?_ _)); exact BK348.out), (by (with_reducible repeat (first | refine blk_drewN ?_ _ | refine blk_drew ?_ | refine blk_alloc ?_ _)); exact BK359.out), (by repeat (first | (with_reducible first | exact HB.out | apply below_alloc | apply pw_below_drewN | apply below_drew1 | refine below_set ?_ GE336.out | refine below_set ?_ GE348.out | refine below_set ?_ GE359.out) | exact HB.out))⟩)
      ·skip
       have hcv26 := own_string (P := Try.prog) Try.underlying28 Try.underlying5 Try.underlying9 (Kd.own_of_R HO365.out)
       refine value_ (w1 := ?_) (v := ?_) (by rfl) rfl ?_ ?_
       rotate_left 2
       ·go_simp
        constructor
        ·rfl
        ·rfl
       clear hcv26
       refine hK.out _ _ ⟨(blk_cell BK336.out 0).trans rfl, (blk_cell BK336.out 1).trans rfl, (blk_cell BK336.out 2).trans rfl, (blk_cell BK336.out 3).trans rfl, (blk_cell BK336.out 4).trans rfl, (blk_cell BK336.out 5).trans rfl, (blk_cell BK336.out 6).trans rfl, (blk_cell BK336.out 7).trans rfl, (blk_cell BK336.out 8).trans rfl, (blk_cell BK348.out 0).trans rfl, (blk_cell BK348.out 1).trans rfl, (blk_cell BK348.out 2).trans rfl, (blk_cell BK348.out 3).trans rfl, (blk_cell BK348.out 4).trans rfl, (blk_cell BK348.out 5).trans rfl, (blk_cell BK348.out 6).trans rfl, (blk_cell BK348.out 7).trans rfl, (blk_cell BK348.out 8).trans rfl, (blk_cell BK359.out 0).trans rfl, (blk_cell BK359.out 1).trans rfl, (blk_cell BK359.out 2).trans rfl, (blk_cell BK359.out 3).trans rfl, (blk_cell BK359.out 4).trans rfl, (blk_cell BK359.out 5).trans rfl, (blk_cell BK359.out 6).trans rfl, (blk_cell BK359.out 7).trans rfl, (blk_cell BK359.out 8).trans rfl⟩ (fun hHeld => ?_)
       clear hK K
       refine norm_ (a' := ?_) ?_ ?_
       rotate_left
       ·show Act.put _ (some 28) _ = _
        simp only [Act.put, List.setIfInBounds_toArray, List.set_cons_zero, List.set_cons_succ, i64_w, i32_w]
        rfl
       refine one_ (i := 4) (N := some 25) #[true, true, true, true, true, true, true, true, false, false, false, false, false, false, false, false, false, false, false, false, false] rfl rfl (one_of HT_.out (by kernel_rfl)) (by decide) (fun K hK => ?_)
       have hcv27 := own_string (P := Try.prog) Try.underlying28 Try.underlying5 Try.underlying9 (Kd.own_of_R HO362.out)
       refine value_ (w1 := ?_) (v := ?_) (by rfl) rfl ?_ ?_
       rotate_left 2
       ·go_simp
        constructor
        ·rfl
        ·rfl
       clear hcv27
       refine hK.out _ _ ⟨(blk_cell BK336.out 0).trans rfl, (blk_cell BK336.out 1).trans rfl, (blk_cell BK336.out 2).trans rfl, (blk_cell BK336.out 3).trans rfl, (blk_cell BK336.out 4).trans rfl, (blk_cell BK336.out 5).trans rfl, (blk_cell BK336.out 6).trans rfl, (blk_cell BK336.out 7).trans rfl, (blk_cell BK336.out 8).trans rfl, (blk_cell BK348.out 0).trans rfl, (blk_cell BK348.out 1).trans rfl, (blk_cell BK348.out 2).trans rfl, (blk_cell BK348.out 3).trans rfl, (blk_cell BK348.out 4).trans rfl, (blk_cell BK348.out 5).trans rfl, (blk_cell BK348.out 6).trans rfl, (blk_cell BK348.out 7).trans rfl, (blk_cell BK348.out 8).trans rfl, (blk_cell BK359.out 0).trans rfl, (blk_cell BK359.out 1).trans rfl, (blk_cell BK359.out 2).trans rfl, (blk_cell BK359.out 3).trans rfl, (blk_cell BK359.out 4).trans rfl, (blk_cell BK359.out 5).trans rfl, (blk_cell BK359.out 6).trans rfl, (blk_cell BK359.out 7).trans rfl, (blk_cell BK359.out 8).trans rfl⟩ (fun hHeld => ?_)
       clear hK K
       refine norm_ (a' := ?_) ?_ ?_
       rotate_left
       ·show Act.put _ (some 25) _ = _
        simp only [Act.put, List.setIfInBounds_toArray, List.set_cons_zero, List.set_cons_succ, i64_w, i32_w]
        rfl
       exact norm_ (by simp only [putAll, Act.put, List.setIfInBounds_toArray, List.set_cons_zero, List.set_cons_succ] <;> (try simp only [IntKind.wrap_u32])) (hCont (v364) _ ⟨hHeld, (by (with_reducible repeat (first | apply Kd.R_alloc | apply Kd.R_drewN | apply Kd.R_drew)); exact Kd.R_mono HO362.out (fun _ hk => by first | exact hk.2 | exact hk | exact trivial)), (by (with_reducible repeat (first | apply Kd.R_alloc | apply Kd.R_drewN | apply Kd.R_drew)); exact Kd.R_mono HO365.out (fun _ hk => by first | exact hk.2 | exact hk | exact trivial)), (by (with_reducible repeat (first | refine blk_drewN ?_ _ | refine blk_drew ?_ | refine blk_alloc ?_ _)); exact BK336.out), (by (with_reducible repeat (first | refine blk_drewN ?_ _ | refine blk_drew ?_ | refine blk_alloc ?_ _)); exact BK348.out), (by (with_reducible repeat (first | refine blk_drewN ?_ _ | refine blk_drew ?_ | refine blk_alloc ?_ _)); exact BK359.out), (by repeat (first | (with_reducible first | exact HB.out | apply below_alloc | apply pw_below_drewN | apply below_drew1 | refine below_set ?_ GE336.out | refine below_set ?_ GE348.out | refine below_set ?_ GE359.out) | exact HB.out))⟩)
    rintro v364 w28 ⟨hS_, h0_, h1_, h2_, h3_, h4_, h5_⟩
    have n0_ : Aside0 (Kd.R (Kd.int .u8) 5 w28 w.heap.size (fun k_ => some k_ ≠ (v364 : Value).ownBlock) v361 t360) := ⟨h0_⟩
    have n1_ : Aside0 (Kd.R (Kd.int .u8) 5 w28 w.heap.size (fun k_ => some k_ ≠ (v361 : Value).ownBlock) v364 t363) := ⟨h1_⟩
    have n2_ : Aside0 (w28.heap[gb336]? = some (.cells #[.int .u32 a0_0, .int .u32 a0_1, .int .u64 a0_2, .int .u64 a0_3, .int .u64 a0_4, .int .u64 a0_5, .int .u64 a0_6, .int .u64 a0_7, .int .u64 a0_8] 26 (0, 0))) := ⟨h2_⟩
    have n3_ : Aside0 (w28.heap[gb348]? = some (.cells #[.int .u32 t338, .int .u32 t339, .int .u64 t340, .int .u64 t341, .int .u64 t342, .int .u64 t343, .int .u64 t344, .int .u64 t345, .int .u64 t346] 26 (0, 0))) := ⟨h3_⟩
    have n4_ : Aside0 (w28.heap[gb359]? = some (.cells #[.int .u32 t349, .int .u32 t350, .int .u64 t351, .int .u64 t352, .int .u64 t353, .int .u64 t354, .int .u64 t355, .int .u64 t356, .int .u64 t357] 26 (0, 0))) := ⟨h4_⟩
    have n5_ : Aside0 (Below w.heap.size w w28) := ⟨h5_⟩
    clear BK336
    clear BK348
    clear BK359
    clear HB
    clear h0_ h1_ h2_ h3_ h4_ h5_
    have HO362 := n0_
    have HO365 := n1_
    have BK336 := n2_
    have BK348 := n3_
    have BK359 := n4_
    have HB := n5_
    clear n0_ n1_ n2_ n3_ n4_ n5_
    have hHeld : w28.cell? ⟨gb336, 0, none⟩ = some (.int .u32 a0_0) ∧ w28.cell? ⟨gb336, 1, none⟩ = some (.int .u32 a0_1) ∧ w28.cell? ⟨gb336, 2, none⟩ = some (.int .u64 a0_2) ∧ w28.cell? ⟨gb336, 3, none⟩ = some (.int .u64 a0_3) ∧ w28.cell? ⟨gb336, 4, none⟩ = some (.int .u64 a0_4) ∧ w28.cell? ⟨gb336, 5, none⟩ = some (.int .u64 a0_5) ∧ w28.cell? ⟨gb336, 6, none⟩ = some (.int .u64 a0_6) ∧ w28.cell? ⟨gb336, 7, none⟩ = some (.int .u64 a0_7) ∧ w28.cell? ⟨gb336, 8, none⟩ = some (.int .u64 a0_8) ∧ w28.cell? ⟨gb348, 0, none⟩ = some (.int .u32 t338) ∧ w28.cell? ⟨gb348, 1, none⟩ = some (.int .u32 t339) ∧ w28.cell? ⟨gb348, 2, none⟩ = some (.int .u64 t340) ∧ w28.cell? ⟨gb348, 3, none⟩ = some (.int .u64 t341) ∧ w28.cell? ⟨gb348, 4, none⟩ = some (.int .u64 t342) ∧ w28.cell? ⟨gb348, 5, none⟩ = some (.int .u64 t343) ∧ w28.cell? ⟨gb348, 6, none⟩ = some (.int .u64 t344) ∧ w28.cell? ⟨gb348, 7, none⟩ = some (.int .u64 t345) ∧ w28.cell? ⟨gb348, 8, none⟩ = some (.int .u64 t346) ∧ w28.cell? ⟨gb359, 0, none⟩ = some (.int .u32 t349) ∧ w28.cell? ⟨gb359, 1, none⟩ = some (.int .u32 t350) ∧ w28.cell? ⟨gb359, 2, none⟩ = some (.int .u64 t351) ∧ w28.cell? ⟨gb359, 3, none⟩ = some (.int .u64 t352) ∧ w28.cell? ⟨gb359, 4, none⟩ = some (.int .u64 t353) ∧ w28.cell? ⟨gb359, 5, none⟩ = some (.int .u64 t354) ∧ w28.cell? ⟨gb359, 6, none⟩ = some (.int .u64 t355) ∧ w28.cell? ⟨gb359, 7, none⟩ = some (.int .u64 t356) ∧ w28.cell? ⟨gb359, 8, none⟩ = some (.int .u64 t357) := hS_
    refine norm_ (a' := ?_) ?_ ?_
    rotate_left
    ·simp only [putAll, Act.put, List.setIfInBounds_toArray, List.set_cons_zero, List.set_cons_succ]
     rfl
    refine pure_ (i := 8) (N := some 29) (v := ?_) (a' := ?_) #[true, true, true, true, true, true, true, true, true, false, false, false, false, false, false, false, false, false, false, false, false] rfl rfl (any_of HT_.out (by kernel_rfl)) (fun _ _ _ h => h) (Or.inl ⟨by rfl, ?_⟩) ?_ ?_
    rotate_left
    ·intro w'
     go_simp
     with_reducible rfl
    rotate_left
    ·simp only [Act.put, List.setIfInBounds_toArray, List.set_cons_zero, List.set_cons_succ, i64_w, i32_w]
     rfl
    refine pure_ (i := 9) (N := some 30) (v := ?_) (a' := ?_) #[true, true, true, true, true, true, true, true, true, true, false, false, false, false, false, false, false, false, false, false, false] rfl rfl (any_of HT_.out (by kernel_rfl)) (fun _ _ _ h => h) (Or.inl ⟨by rfl, ?_⟩) ?_ ?_
    rotate_left
    ·intro w'
     go_simp
     with_reducible rfl
    rotate_left
    ·simp only [Act.put, List.setIfInBounds_toArray, List.set_cons_zero, List.set_cons_succ, i64_w, i32_w]
     rfl
    refine pure_ (i := 10) (N := some 31) (v := ?_) (a' := ?_) #[true, true, true, true, true, true, true, true, true, true, true, false, false, false, false, false, false, false, false, false, false] rfl rfl (any_of HT_.out (by kernel_rfl)) (fun _ _ _ h => h) (Or.inl ⟨by rfl, ?_⟩) ?_ ?_
    rotate_left
    ·intro w'
     go_simp
     with_reducible rfl
    rotate_left
    ·simp only [Act.put, List.setIfInBounds_toArray, List.set_cons_zero, List.set_cons_succ, i64_w, i32_w]
     rfl
    refine take_ (i := 11) (N := some 32) (v := ?_) (a' := ?_) #[true, true, true, true, true, true, true, true, true, true, true, true, false, false, false, false, false, false, false, false, false] rfl rfl (take_ofW HT_.out HW_.out (by kernel_rfl)) (fun _ _ _ h => h) (Or.inl ⟨by rfl, ?_⟩) hHeld ?_ ?_
    rotate_left
    ·rintro w' ⟨s0, s1, s2, s3, s4, s5, s6, s7, s8, s9, s10, s11, s12, s13, s14, s15, s16, s17, s18, s19, s20, s21, s22, s23, s24, s25, s26⟩
     go_simp
     with_reducible rfl
    rotate_left
    ·simp only [Act.put, List.setIfInBounds_toArray, List.set_cons_zero, List.set_cons_succ, i64_w, i32_w]
     rfl
    refine take_ (i := 12) (N := some 33) (v := ?_) (a' := ?_) #[true, true, true, true, true, true, true, true, true, true, true, true, true, false, false, false, false, false, false, false, false] rfl rfl (take_ofW HT_.out HW_.out (by kernel_rfl)) (fun _ _ _ h => h) (Or.inl ⟨by rfl, ?_⟩) hHeld ?_ ?_
    rotate_left
    ·rintro w' ⟨s0, s1, s2, s3, s4, s5, s6, s7, s8, s9, s10, s11, s12, s13, s14, s15, s16, s17, s18, s19, s20, s21, s22, s23, s24, s25, s26⟩
     go_simp
     with_reducible rfl
    rotate_left
    ·simp only [Act.put, List.setIfInBounds_toArray, List.set_cons_zero, List.set_cons_succ, i64_w, i32_w]
     rfl
    refine pure_ (i := 13) (N := some 34) (v := ?_) (a' := ?_) #[true, true, true, true, true, true, true, true, true, true, true, true, true, true, false, false, false, false, false, false, false] rfl rfl (any_of HT_.out (by kernel_rfl)) (fun _ _ _ h => h) (Or.inl ⟨by rfl, ?_⟩) ?_ ?_
    rotate_left
    ·intro w'
     go_simp
     with_reducible rfl
    rotate_left
    ·simp only [Act.put, List.setIfInBounds_toArray, List.set_cons_zero, List.set_cons_succ, i64_w, i32_w]
     rfl
    refine pure_ (i := 14) (N := some 35) (v := ?_) (a' := ?_) #[true, true, true, true, true, true, true, true, true, true, true, true, true, true, true, false, false, false, false, false, false] rfl rfl (any_of HT_.out (by kernel_rfl)) (fun _ _ _ h => h) (Or.inl ⟨by rfl, ?_⟩) ?_ ?_
    rotate_left
    ·intro w'
     go_simp
     with_reducible rfl
    rotate_left
    ·simp only [Act.put, List.setIfInBounds_toArray, List.set_cons_zero, List.set_cons_succ, i64_w, i32_w]
     rfl
    refine pure_ (i := 15) (N := some 36) (v := ?_) (a' := ?_) #[true, true, true, true, true, true, true, true, true, true, true, true, true, true, true, true, false, false, false, false, false] rfl rfl (any_of HT_.out (by kernel_rfl)) (fun _ _ _ h => h) (Or.inl ⟨by rfl, ?_⟩) ?_ ?_
    rotate_left
    ·intro w'
     go_simp
     with_reducible rfl
    rotate_left
    ·simp only [Act.put, List.setIfInBounds_toArray, List.set_cons_zero, List.set_cons_succ, i64_w, i32_w]
     rfl
    refine pure_ (i := 16) (N := some 37) (v := ?_) (a' := ?_) #[true, true, true, true, true, true, true, true, true, true, true, true, true, true, true, true, true, false, false, false, false] rfl rfl (any_of HT_.out (by kernel_rfl)) (fun _ _ _ h => h) (Or.inl ⟨by rfl, ?_⟩) ?_ ?_
    rotate_left
    ·intro w'
     go_simp
     with_reducible rfl
    rotate_left
    ·simp only [Act.put, List.setIfInBounds_toArray, List.set_cons_zero, List.set_cons_succ, i64_w, i32_w]
     rfl
    refine pure_ (i := 17) (N := some 38) (v := ?_) (a' := ?_) #[true, true, true, true, true, true, true, true, true, true, true, true, true, true, true, true, true, true, false, false, false] rfl rfl (any_of HT_.out (by kernel_rfl)) (fun _ _ _ h => h) (Or.inl ⟨by rfl, ?_⟩) ?_ ?_
    rotate_left
    ·intro w'
     go_simp
     with_reducible rfl
    rotate_left
    ·simp only [Act.put, List.setIfInBounds_toArray, List.set_cons_zero, List.set_cons_succ, i64_w, i32_w]
     rfl
    refine pure_ (i := 18) (N := some 39) (v := ?_) (a' := ?_) #[true, true, true, true, true, true, true, true, true, true, true, true, true, true, true, true, true, true, true, false, false] rfl rfl (any_of HT_.out (by kernel_rfl)) (fun _ _ _ h => h) (Or.inl ⟨by rfl, ?_⟩) ?_ ?_
    rotate_left
    ·intro w'
     go_simp
     with_reducible rfl
    rotate_left
    ·simp only [Act.put, List.setIfInBounds_toArray, List.set_cons_zero, List.set_cons_succ, i64_w, i32_w]
     rfl
    refine pure_ (i := 19) (N := some 40) (v := ?_) (a' := ?_) #[true, true, true, true, true, true, true, true, true, true, true, true, true, true, true, true, true, true, true, true, false] rfl rfl (any_of HT_.out (by kernel_rfl)) (fun _ _ _ h => h) (Or.inl ⟨by rfl, ?_⟩) ?_ ?_
    rotate_left
    ·intro w'
     go_simp
     with_reducible rfl
    rotate_left
    ·simp only [Act.put, List.setIfInBounds_toArray, List.set_cons_zero, List.set_cons_succ, i64_w, i32_w]
     rfl
    refine pure_ (i := 20) (N := some 4) (v := ?_) (a' := ?_) #[true, true, true, true, true, true, true, true, true, true, true, true, true, true, true, true, true, true, true, true, true] rfl rfl (any_of HT_.out (by kernel_rfl)) (fun _ _ _ h => h) (Or.inl ⟨by rfl, ?_⟩) ?_ ?_
    rotate_left
    ·intro w'
     go_simp
     with_reducible rfl
    rotate_left
    ·simp only [Act.put, List.setIfInBounds_toArray, List.set_cons_zero, List.set_cons_succ, i64_w, i32_w]
     rfl
    refine done_ (done_of HT_.out (by kernel_rfl)) ?_
    try go_wp2
    go_ret
    exact ⟨by first | rfl | (simp [errW_none, errW_some] <;> rfl) | (simp [*, errW_none, errW_some] <;> rfl), by repeat (first | (with_reducible first | exact HB.out | apply below_alloc | apply pw_below_drewN | apply below_drew1 | refine below_set ?_ GE336.out | refine below_set ?_ GE348.out | refine below_set ?_ GE359.out) | exact HB.out)⟩
   ·rw [if_neg c10] at H
    have c10b0 : (t338 == t349 && (t339 == t350 && (t340 == t351 && ((t341 == t352 && (t342 == t353 && (t343 == t354 && (t344 == t355 && (t345 == t356 && (t346 == t357)))))))))) = false := by simpa using c10
    (try (have c10b1 : decide (t338 = t349 && (t339 == t350 && (t340 == t351 && ((t341 == t352 && (t342 == t353 && (t343 == t354 && (t344 == t355 && (t345 == t356 && (t346 == t357)))))))))) = false := by simpa using c10))
    (try (have c10b2 : (t338 == t349 && (t339 == t350 && (t340 == t351 && ((t341 == t352 && (t342 == t353 && (t343 == t354 && (t344 == t355 && (t345 == t356 && (t346 == t357)))))))))) = false := by simpa using c10))
    (try (have c10b3 : ¬ (t338 = t349 && (t339 == t350 && (t340 == t351 && ((t341 == t352 && (t342 == t353 && (t343 == t354 && (t344 == t355 && (t345 == t356 && (t346 == t357)))))))))) := by simpa using c10))
    clear c10
    obtain rfl := Option.some.inj H
    go_enter Try.func7, Try.ntmps7
    try go_wp2_with (first | ((with_reducible refine gate_dst (N := 2) rfl ?_); refine box_event ?hg (N := 2) ?hd (cs := #[.int .u32 a0_0, .int .u32 a0_1, .int .u64 a0_2, .int .u64 a0_3, .int .u64 a0_4, .int .u64 a0_5, .int .u64 a0_6, .int .u64 a0_7, .int .u64 a0_8]) (t := 26) ?hr ?_; (case hd => rfl); (case hg => rfl); (case hr => first | (go_simp; done) | (go_simp; rfl)); intro gb336 hg w29 hbox hb; have n0_ := Aside0.mk (below_step (by repeat (first | (with_reducible first | exact HB.out | apply below_alloc | apply pw_below_drewN | apply below_drew1) | exact HB.out)) hb); have n1_ := Aside0.mk (hbox); have n2_ := Aside0.mk ((by rw [hg]; exact (below_size (by repeat (first | (with_reducible first | exact HB.out | apply below_alloc | apply pw_below_drewN | apply below_drew1) | exact HB.out))) : w.heap.size ≤ gb336)); have n3_ := Aside0.mk ((by rw [hg]; exact (below_size (by repeat (first | (with_reducible first | exact HB.out | apply below_alloc | apply pw_below_drewN | apply below_drew1) | exact HB.out))) : w.heap.size ≤ gb336)); clear HB; have HB := n0_; have BK336 := n1_; have GW336 := n2_; have GE336 := n3_; clear n0_ n1_ n2_ n3_; clear hb hbox hg) | ((with_reducible refine gate_callee (f := 9) rfl ?_); refine goesL_ (some 10) rfl rfl Try.func9 (by kernel_rfl) rfl #[] rfl (by (try simp only [List.map_toArray, List.map_cons, List.map_nil]); first | done | rfl | (simp only [List.length_drop, List.length_take]; rfl)) ?_; (with_reducible refine (fairleadlaw04_awake.calls k  true _ A3.out).mono ?_); rintro e w30 ⟨rfl, hb⟩; refine ⟨_, rfl, ?_⟩; have n0_ := Aside0.mk (blk_below (g := gb336) (o := .cells #[.int .u32 a0_0, .int .u32 a0_1, .int .u64 a0_2, .int .u64 a0_3, .int .u64 a0_4, .int .u64 a0_5, .int .u64 a0_6, .int .u64 a0_7, .int .u64 a0_8] 26 (0, 0)) (by (with_reducible repeat (first | refine blk_drewN ?_ _ | refine blk_drew ?_ | refine blk_alloc ?_ _)); exact BK336.out) hb); have n1_ := Aside0.mk (below_step (by repeat (first | (with_reducible first | exact HB.out | apply below_alloc | apply pw_below_drewN | apply below_drew1 | refine below_set ?_ GE336.out) | exact HB.out)) hb); clear BK336; clear HB; have BK336 := n0_; have HB := n1_; clear n0_ n1_; (try clear hb); (try clear hb2); (try clear hk); (try clear hi)) | ((with_reducible refine gate_callee (f := 15) rfl ?_); refine goesL_ (some 13) rfl rfl Try.func15 (by kernel_rfl) rfl #[.slice A1 l1.length c1] rfl (by (try simp only [List.map_toArray, List.map_cons, List.map_nil]); first | done | rfl | (simp only [List.length_drop, List.length_take]; rfl)) ?_; (with_reducible refine (data_Of.calls k _ _ l1 t338 t339 t340 t341 t342 t343 t344 t345 t346 t347 _ ?side1 ?side2 A4.out).mono ?_); (case side1 => repeat (first | exact (Kd.C_below HR1.out HB.out) | (with_reducible refine Kd.C_alloc ?_ _) | (with_reducible refine Kd.C_drewN ?_ _) | (with_reducible refine Kd.C_drew ?_))); (case side2 => exact HC1.out); rintro e w31 ⟨rfl, hb⟩; refine ⟨_, rfl, ?_⟩; have n0_ := Aside0.mk (blk_below (g := gb336) (o := .cells #[.int .u32 a0_0, .int .u32 a0_1, .int .u64 a0_2, .int .u64 a0_3, .int .u64 a0_4, .int .u64 a0_5, .int .u64 a0_6, .int .u64 a0_7, .int .u64 a0_8] 26 (0, 0)) (by (with_reducible repeat (first | refine blk_drewN ?_ _ | refine blk_drew ?_ | refine blk_alloc ?_ _)); exact BK336.out) hb); have n1_ := Aside0.mk (below_step (by repeat (first | (with_reducible first | exact HB.out | apply below_alloc | apply pw_below_drewN | apply below_drew1 | refine below_set ?_ GE336.out) | exact HB.out)) hb); clear BK336; clear HB; have BK336 := n0_; have HB := n1_; clear n0_ n1_; (try clear hb); (try clear hb2); (try clear hk); (try clear hi)) | ((with_reducible refine gate_dst (N := 6) rfl ?_); refine box_event ?hg (N := 6) ?hd (cs := #[.int .u32 0, .int .u32 0, .int .u64 0, .int .u64 0, .int .u64 0, .int .u64 0, .int .u64 0, .int .u64 0, .int .u64 0]) (t := 26) ?hr ?_; (case hd => rfl); (case hg => rfl); (case hr => first | (go_simp; done) | (go_simp; rfl)); intro gb348 hg w32 hbox hb; have n0_ := Aside0.mk (blk_below (g := gb336) (o := .cells #[.int .u32 a0_0, .int .u32 a0_1, .int .u64 a0_2, .int .u64 a0_3, .int .u64 a0_4, .int .u64 a0_5, .int .u64 a0_6, .int .u64 a0_7, .int .u64 a0_8] 26 (0, 0)) (by (with_reducible repeat (first | refine blk_drewN ?_ _ | refine blk_drew ?_ | refine blk_alloc ?_ _)); exact BK336.out) hb); have n1_ := Aside0.mk (below_step (by repeat (first | (with_reducible first | exact HB.out | apply below_alloc | apply pw_below_drewN | apply below_drew1 | refine below_set ?_ GE336.out) | exact HB.out)) hb); have n2_ := Aside0.mk (hbox); have n3_ := Aside0.mk ((by rw [hg]; exact (below_size (by repeat (first | (with_reducible first | exact HB.out | apply below_alloc | apply pw_below_drewN | apply below_drew1 | refine below_set ?_ GE336.out) | exact HB.out))) : w.heap.size ≤ gb348)); have n4_ := Aside0.mk ((by rw [hg]; exact (below_size (by repeat (first | (with_reducible first | exact HB.out | apply below_alloc | apply pw_below_drewN | apply below_drew1 | refine below_set ?_ GE336.out) | exact HB.out))) : w.heap.size ≤ gb348)); have n5_ := Aside0.mk ((by rw [hg]; exact Nat.ne_of_lt (blk_lt (g := gb336) (o := .cells #[.int .u32 a0_0, .int .u32 a0_1, .int .u64 a0_2, .int .u64 a0_3, .int .u64 a0_4, .int .u64 a0_5, .int .u64 a0_6, .int .u64 a0_7, .int .u64 a0_8] 26 (0, 0)) (by (with_reducible repeat (first | refine blk_drewN ?_ _ | refine blk_drew ?_ | refine blk_alloc ?_ _)); exact BK336.out)) : gb336 ≠ gb348)); have n6_ := Aside0.mk ((by rw [hg]; exact Nat.ne_of_gt (blk_lt (g := gb336) (o := .cells #[.int .u32 a0_0, .int .u32 a0_1, .int .u64 a0_2, .int .u64 a0_3, .int .u64 a0_4, .int .u64 a0_5, .int .u64 a0_6, .int .u64 a0_7, .int .u64 a0_8] 26 (0, 0)) (by (with_reducible repeat (first | refine blk_drewN ?_ _ | refine blk_drew ?_ | refine blk_alloc ?_ _)); exact BK336.out)) : gb348 ≠ gb336)); clear BK336; clear HB; have BK336 := n0_; have HB := n1_; have BK348 := n2_; have GW348 := n3_; have GE348 := n4_; have NB336_348 := n5_; have NB348_336 := n6_; clear n0_ n1_ n2_ n3_ n4_ n5_ n6_; clear hb hbox hg; have hnb33 := NB348_336.out; have hnc33 := NB336_348.out; have hcz34_0 : w32.cell? ⟨gb348, 0, none⟩ = some (.int .u32 0) := (blk_cell BK348.out 0).trans rfl; have hcz34_1 : w32.cell? ⟨gb348, 1, none⟩ = some (.int .u32 0) := (blk_cell BK348.out 1).trans rfl; have hcz34_2 : w32.cell? ⟨gb348, 2, none⟩ = some (.int .u64 0) := (blk_cell BK348.out 2).trans rfl; have hcz34_3 : w32.cell? ⟨gb348, 3, none⟩ = some (.int .u64 0) := (blk_cell BK348.out 3).trans rfl; have hcz34_4 : w32.cell? ⟨gb348, 4, none⟩ = some (.int .u64 0) := (blk_cell BK348.out 4).trans rfl; have hcz34_5 : w32.cell? ⟨gb348, 5, none⟩ = some (.int .u64 0) := (blk_cell BK348.out 5).trans rfl; have hcz34_6 : w32.cell? ⟨gb348, 6, none⟩ = some (.int .u64 0) := (blk_cell BK348.out 6).trans rfl; have hcz34_7 : w32.cell? ⟨gb348, 7, none⟩ = some (.int .u64 0) := (blk_cell BK348.out 7).trans rfl; have hcz34_8 : w32.cell? ⟨gb348, 8, none⟩ = some (.int .u64 0) := (blk_cell BK348.out 8).trans rfl; have hfz34_0 := blk_frozen BK348.out 0; have hfz34_1 := blk_frozen BK348.out 1; have hfz34_2 := blk_frozen BK348.out 2; have hfz34_3 := blk_frozen BK348.out 3; have hfz34_4 := blk_frozen BK348.out 4; have hfz34_5 := blk_frozen BK348.out 5; have hfz34_6 := blk_frozen BK348.out 6; have hfz34_7 := blk_frozen BK348.out 7; have hfz34_8 := blk_frozen BK348.out 8) | ((with_reducible refine gate_callee (f := 16) rfl ?_); refine goesL_ (some 18) rfl rfl Try.func16 (by kernel_rfl) rfl #[.slice A1 l1.length c1] rfl (by (try simp only [List.map_toArray, List.map_cons, List.map_nil]); first | done | rfl | (simp only [List.length_drop, List.length_take]; rfl)) ?_; (with_reducible refine (fairleadref04_Of.calls k _ _ l1 t349 t350 t351 t352 t353 t354 t355 t356 t357 t358 _ ?side1 ?side2 A5.out).mono ?_); (case side1 => exact Kd.C_below HR1.out (by repeat (first | (with_reducible first | exact HB.out | apply below_alloc | apply pw_below_drewN | apply below_drew1 | refine below_set ?_ GE336.out | refine below_set ?_ GE348.out) | exact HB.out))); (case side2 => exact HC1.out); rintro e w35 ⟨rfl, hb⟩; refine ⟨_, rfl, ?_⟩; have n0_ := Aside0.mk (blk_below (g := gb336) (o := .cells #[.int .u32 a0_0, .int .u32 a0_1, .int .u64 a0_2, .int .u64 a0_3, .int .u64 a0_4, .int .u64 a0_5, .int .u64 a0_6, .int .u64 a0_7, .int .u64 a0_8] 26 (0, 0)) (by (with_reducible repeat (first | refine blk_drewN ?_ _ | refine blk_drew ?_ | refine blk_alloc ?_ _)); refine blk_far ?_ NB336_348.out _; (with_reducible repeat (first | refine blk_drewN ?_ _ | refine blk_drew ?_ | refine blk_alloc ?_ _)); refine blk_far ?_ NB336_348.out _; (with_reducible repeat (first | refine blk_drewN ?_ _ | refine blk_drew ?_ | refine blk_alloc ?_ _)); refine blk_far ?_ NB336_348.out _; (with_reducible repeat (first | refine blk_drewN ?_ _ | refine blk_drew ?_ | refine blk_alloc ?_ _)); refine blk_far ?_ NB336_348.out _; (with_reducible repeat (first | refine blk_drewN ?_ _ | refine blk_drew ?_ | refine blk_alloc ?_ _)); refine blk_far ?_ NB336_348.out _; (with_reducible repeat (first | refine blk_drewN ?_ _ | refine blk_drew ?_ | refine blk_alloc ?_ _)); refine blk_far ?_ NB336_348.out _; (with_reducible repeat (first | refine blk_drewN ?_ _ | refine blk_drew ?_ | refine blk_alloc ?_ _)); refine blk_far ?_ NB336_348.out _; (with_reducible repeat (first | refine blk_drewN ?_ _ | refine blk_drew ?_ | refine blk_alloc ?_ _)); refine blk_far ?_ NB336_348.out _; (with_reducible repeat (first | refine blk_drewN ?_ _ | refine blk_drew ?_ | refine blk_alloc ?_ _)); refine blk_far ?_ NB336_348.out _; (with_reducible repeat (first | refine blk_drewN ?_ _ | refine blk_drew ?_ | refine blk_alloc ?_ _)); exact BK336.out) hb); have n1_ := Aside0.mk (blk_below (g := gb348) (o := .cells #[.int .u32 t338, .int .u32 t339, .int .u64 t340, .int .u64 t341, .int .u64 t342, .int .u64 t343, .int .u64 t344, .int .u64 t345, .int .u64 t346] 26 (0, 0)) (by (with_reducible repeat (first | refine blk_drewN ?_ _ | refine blk_drew ?_ | refine blk_alloc ?_ _)); refine blk_put (cs := #[.int .u32 t338, .int .u32 t339, .int .u64 t340, .int .u64 t341, .int .u64 t342, .int .u64 t343, .int .u64 t344, .int .u64 t345, .int .u64 0]) ?_ 8 _ rfl; (with_reducible repeat (first | refine blk_drewN ?_ _ | refine blk_drew ?_ | refine blk_alloc ?_ _)); refine blk_put (cs := #[.int .u32 t338, .int .u32 t339, .int .u64 t340, .int .u64 t341, .int .u64 t342, .int .u64 t343, .int .u64 t344, .int .u64 0, .int .u64 0]) ?_ 7 _ rfl; (with_reducible repeat (first | refine blk_drewN ?_ _ | refine blk_drew ?_ | refine blk_alloc ?_ _)); refine blk_put (cs := #[.int .u32 t338, .int .u32 t339, .int .u64 t340, .int .u64 t341, .int .u64 t342, .int .u64 t343, .int .u64 0, .int .u64 0, .int .u64 0]) ?_ 6 _ rfl; (with_reducible repeat (first | refine blk_drewN ?_ _ | refine blk_drew ?_ | refine blk_alloc ?_ _)); refine blk_put (cs := #[.int .u32 t338, .int .u32 t339, .int .u64 t340, .int .u64 t341, .int .u64 t342, .int .u64 0, .int .u64 0, .int .u64 0, .int .u64 0]) ?_ 5 _ rfl; (with_reducible repeat (first | refine blk_drewN ?_ _ | refine blk_drew ?_ | refine blk_alloc ?_ _)); refine blk_put (cs := #[.int .u32 t338, .int .u32 t339, .int .u64 t340, .int .u64 t341, .int .u64 0, .int .u64 0, .int .u64 0, .int .u64 0, .int .u64 0]) ?_ 4 _ rfl; (with_reducible repeat (first | refine blk_drewN ?_ _ | refine blk_drew ?_ | refine blk_alloc ?_ _)); refine blk_put (cs := #[.int .u32 t338, .int .u32 t339, .int .u64 t340, .int .u64 0, .int .u64 0, .int .u64 0, .int .u64 0, .int .u64 0, .int .u64 0]) ?_ 3 _ rfl; (with_reducible repeat (first | refine blk_drewN ?_ _ | refine blk_drew ?_ | refine blk_alloc ?_ _)); refine blk_put (cs := #[.int .u32 t338, .int .u32 t339, .int .u64 0, .int .u64 0, .int .u64 0, .int .u64 0, .int .u64 0, .int .u64 0, .int .u64 0]) ?_ 2 _ rfl; (with_reducible repeat (first | refine blk_drewN ?_ _ | refine blk_drew ?_ | refine blk_alloc ?_ _)); refine blk_put (cs := #[.int .u32 t338, .int .u32 0, .int .u64 0, .int .u64 0, .int .u64 0, .int .u64 0, .int .u64 0, .int .u64 0, .int .u64 0]) ?_ 1 _ rfl; (with_reducible repeat (first | refine blk_drewN ?_ _ | refine blk_drew ?_ | refine blk_alloc ?_ _)); refine blk_put (cs := #[.int .u32 0, .int .u32 0, .int .u64 0, .int .u64 0, .int .u64 0, .int .u64 0, .int .u64 0, .int .u64 0, .int .u64 0]) ?_ 0 _ rfl; (with_reducible repeat (first | refine blk_drewN ?_ _ | refine blk_drew ?_ | refine blk_alloc ?_ _)); exact BK348.out) hb); have n2_ := Aside0.mk (below_step (by repeat (first | (with_reducible first | exact HB.out | apply below_alloc | apply pw_below_drewN | apply below_drew1 | refine below_set ?_ GE336.out | refine below_set ?_ GE348.out) | exact HB.out)) hb); clear BK336; clear BK348; clear HB; have BK336 := n0_; have BK348 := n1_; have HB := n2_; clear n0_ n1_ n2_; (try clear hb); (try clear hb2); (try clear hk); (try clear hi)) | ((with_reducible refine gate_dst (N := 8) rfl ?_); refine box_event ?hg (N := 8) ?hd (cs := #[.int .u32 0, .int .u32 0, .int .u64 0, .int .u64 0, .int .u64 0, .int .u64 0, .int .u64 0, .int .u64 0, .int .u64 0]) (t := 26) ?hr ?_; (case hd => rfl); (case hg => rfl); (case hr => first | (go_simp; done) | (go_simp; rfl)); intro gb359 hg w36 hbox hb; have n0_ := Aside0.mk (blk_below (g := gb336) (o := .cells #[.int .u32 a0_0, .int .u32 a0_1, .int .u64 a0_2, .int .u64 a0_3, .int .u64 a0_4, .int .u64 a0_5, .int .u64 a0_6, .int .u64 a0_7, .int .u64 a0_8] 26 (0, 0)) (by (with_reducible repeat (first | refine blk_drewN ?_ _ | refine blk_drew ?_ | refine blk_alloc ?_ _)); exact BK336.out) hb); have n1_ := Aside0.mk (blk_below (g := gb348) (o := .cells #[.int .u32 t338, .int .u32 t339, .int .u64 t340, .int .u64 t341, .int .u64 t342, .int .u64 t343, .int .u64 t344, .int .u64 t345, .int .u64 t346] 26 (0, 0)) (by (with_reducible repeat (first | refine blk_drewN ?_ _ | refine blk_drew ?_ | refine blk_alloc ?_ _)); exact BK348.out) hb); have n2_ := Aside0.mk (below_step (by repeat (first | (with_reducible first | exact HB.out | apply below_alloc | apply pw_below_drewN | apply below_drew1 | refine below_set ?_ GE336.out | refine below_set ?_ GE348.out) | exact HB.out)) hb); have n3_ := Aside0.mk (hbox); have n4_ := Aside0.mk ((by rw [hg]; exact (below_size (by repeat (first | (with_reducible first | exact HB.out | apply below_alloc | apply pw_below_drewN | apply below_drew1 | refine below_set ?_ GE336.out | refine below_set ?_ GE348.out) | exact HB.out))) : w.heap.size ≤ gb359)); have n5_ := Aside0.mk ((by rw [hg]; exact (below_size (by repeat (first | (with_reducible first | exact HB.out | apply below_alloc | apply pw_below_drewN | apply below_drew1 | refine below_set ?_ GE336.out | refine below_set ?_ GE348.out) | exact HB.out))) : w.heap.size ≤ gb359)); have n6_ := Aside0.mk ((by rw [hg]; exact Nat.ne_of_lt (blk_lt (g := gb336) (o := .cells #[.int .u32 a0_0, .int .u32 a0_1, .int .u64 a0_2, .int .u64 a0_3, .int .u64 a0_4, .int .u64 a0_5, .int .u64 a0_6, .int .u64 a0_7, .int .u64 a0_8] 26 (0, 0)) (by (with_reducible repeat (first | refine blk_drewN ?_ _ | refine blk_drew ?_ | refine blk_alloc ?_ _)); exact BK336.out)) : gb336 ≠ gb359)); have n7_ := Aside0.mk ((by rw [hg]; exact Nat.ne_of_gt (blk_lt (g := gb336) (o := .cells #[.int .u32 a0_0, .int .u32 a0_1, .int .u64 a0_2, .int .u64 a0_3, .int .u64 a0_4, .int .u64 a0_5, .int .u64 a0_6, .int .u64 a0_7, .int .u64 a0_8] 26 (0, 0)) (by (with_reducible repeat (first | refine blk_drewN ?_ _ | refine blk_drew ?_ | refine blk_alloc ?_ _)); exact BK336.out)) : gb359 ≠ gb336)); have n8_ := Aside0.mk ((by rw [hg]; exact Nat.ne_of_lt (blk_lt (g := gb348) (o := .cells #[.int .u32 t338, .int .u32 t339, .int .u64 t340, .int .u64 t341, .int .u64 t342, .int .u64 t343, .int .u64 t344, .int .u64 t345, .int .u64 t346] 26 (0, 0)) (by (with_reducible repeat (first | refine blk_drewN ?_ _ | refine blk_drew ?_ | refine blk_alloc ?_ _)); exact BK348.out)) : gb348 ≠ gb359)); have n9_ := Aside0.mk ((by rw [hg]; exact Nat.ne_of_gt (blk_lt (g := gb348) (o := .cells #[.int .u32 t338, .int .u32 t339, .int .u64 t340, .int .u64 t341, .int .u64 t342, .int .u64 t343, .int .u64 t344, .int .u64 t345, .int .u64 t346] 26 (0, 0)) (by (with_reducible repeat (first | refine blk_drewN ?_ _ | refine blk_drew ?_ | refine blk_alloc ?_ _)); exact BK348.out)) : gb359 ≠ gb348)); clear BK336; clear BK348; clear HB; have BK336 := n0_; have BK348 := n1_; have HB := n2_; have BK359 := n3_; have GW359 := n4_; have GE359 := n5_; have NB336_359 := n6_; have NB359_336 := n7_; have NB348_359 := n8_; have NB359_348 := n9_; clear n0_ n1_ n2_ n3_ n4_ n5_ n6_ n7_ n8_ n9_; clear hb hbox hg; have hnb37 := NB359_336.out; have hnc37 := NB336_359.out; have hnb38 := NB359_348.out; have hnc38 := NB348_359.out; have hcz39_0 : w36.cell? ⟨gb359, 0, none⟩ = some (.int .u32 0) := (blk_cell BK359.out 0).trans rfl; have hcz39_1 : w36.cell? ⟨gb359, 1, none⟩ = some (.int .u32 0) := (blk_cell BK359.out 1).trans rfl; have hcz39_2 : w36.cell? ⟨gb359, 2, none⟩ = some (.int .u64 0) := (blk_cell BK359.out 2).trans rfl; have hcz39_3 : w36.cell? ⟨gb359, 3, none⟩ = some (.int .u64 0) := (blk_cell BK359.out 3).trans rfl; have hcz39_4 : w36.cell? ⟨gb359, 4, none⟩ = some (.int .u64 0) := (blk_cell BK359.out 4).trans rfl; have hcz39_5 : w36.cell? ⟨gb359, 5, none⟩ = some (.int .u64 0) := (blk_cell BK359.out 5).trans rfl; have hcz39_6 : w36.cell? ⟨gb359, 6, none⟩ = some (.int .u64 0) := (blk_cell BK359.out 6).trans rfl; have hcz39_7 : w36.cell? ⟨gb359, 7, none⟩ = some (.int .u64 0) := (blk_cell BK359.out 7).trans rfl; have hcz39_8 : w36.cell? ⟨gb359, 8, none⟩ = some (.int .u64 0) := (blk_cell BK359.out 8).trans rfl; have hfz39_0 := blk_frozen BK359.out 0; have hfz39_1 := blk_frozen BK359.out 1; have hfz39_2 := blk_frozen BK359.out 2; have hfz39_3 := blk_frozen BK359.out 3; have hfz39_4 := blk_frozen BK359.out 4; have hfz39_5 := blk_frozen BK359.out 5; have hfz39_6 := blk_frozen BK359.out 6; have hfz39_7 := blk_frozen BK359.out 7; have hfz39_8 := blk_frozen BK359.out 8))
    have n0_ : Aside0 ((((((((((w36.setCell ⟨gb359, 0, none⟩ (.int .u32 t349)).setCell ⟨gb359, 1, none⟩ (.int .u32 t350)).setCell ⟨gb359, 2, none⟩ (.int .u64 t351)).setCell ⟨gb359, 3, none⟩ (.int .u64 t352)).setCell ⟨gb359, 4, none⟩ (.int .u64 t353)).setCell ⟨gb359, 5, none⟩ (.int .u64 t354)).setCell ⟨gb359, 6, none⟩ (.int .u64 t355)).setCell ⟨gb359, 7, none⟩ (.int .u64 t356)).setCell ⟨gb359, 8, none⟩ (.int .u64 t357)).heap[gb336]? = some (.cells #[.int .u32 a0_0, .int .u32 a0_1, .int .u64 a0_2, .int .u64 a0_3, .int .u64 a0_4, .int .u64 a0_5, .int .u64 a0_6, .int .u64 a0_7, .int .u64 a0_8] 26 (0, 0))) := ⟨by (with_reducible repeat (first | refine blk_drewN ?_ _ | refine blk_drew ?_ | refine blk_alloc ?_ _)); refine blk_far ?_ NB336_359.out _; (with_reducible repeat (first | refine blk_drewN ?_ _ | refine blk_drew ?_ | refine blk_alloc ?_ _)); refine blk_far ?_ NB336_359.out _; (with_reducible repeat (first | refine blk_drewN ?_ _ | refine blk_drew ?_ | refine blk_alloc ?_ _)); refine blk_far ?_ NB336_359.out _; (with_reducible repeat (first | refine blk_drewN ?_ _ | refine blk_drew ?_ | refine blk_alloc ?_ _)); refine blk_far ?_ NB336_359.out _; (with_reducible repeat (first | refine blk_drewN ?_ _ | refine blk_drew ?_ | refine blk_alloc ?_ _)); refine blk_far ?_ NB336_359.out _; (with_reducible repeat (first | refine blk_drewN ?_ _ | refine blk_drew ?_ | refine blk_alloc ?_ _)); refine blk_far ?_ NB336_359.out _; (with_reducible repeat (first | refine blk_drewN ?_ _ | refine blk_drew ?_ | refine blk_alloc ?_ _)); refine blk_far ?_ NB336_359.out _; (with_reducible repeat (first | refine blk_drewN ?_ _ | refine blk_drew ?_ | refine blk_alloc ?_ _)); refine blk_far ?_ NB336_359.out _; (with_reducible repeat (first | refine blk_drewN ?_ _ | refine blk_drew ?_ | refine blk_alloc ?_ _)); refine blk_far ?_ NB336_359.out _; (with_reducible repeat (first | refine blk_drewN ?_ _ | refine blk_drew ?_ | refine blk_alloc ?_ _)); exact BK336.out⟩
    have n1_ : Aside0 ((((((((((w36.setCell ⟨gb359, 0, none⟩ (.int .u32 t349)).setCell ⟨gb359, 1, none⟩ (.int .u32 t350)).setCell ⟨gb359, 2, none⟩ (.int .u64 t351)).setCell ⟨gb359, 3, none⟩ (.int .u64 t352)).setCell ⟨gb359, 4, none⟩ (.int .u64 t353)).setCell ⟨gb359, 5, none⟩ (.int .u64 t354)).setCell ⟨gb359, 6, none⟩ (.int .u64 t355)).setCell ⟨gb359, 7, none⟩ (.int .u64 t356)).setCell ⟨gb359, 8, none⟩ (.int .u64 t357)).heap[gb348]? = some (.cells #[.int .u32 t338, .int .u32 t339, .int .u64 t340, .int .u64 t341, .int .u64 t342, .int .u64 t343, .int .u64 t344, .int .u64 t345, .int .u64 t346] 26 (0, 0))) := ⟨by (with_reducible repeat (first | refine blk_drewN ?_ _ | refine blk_drew ?_ | refine blk_alloc ?_ _)); refine blk_far ?_ NB348_359.out _; (with_reducible repeat (first | refine blk_drewN ?_ _ | refine blk_drew ?_ | refine blk_alloc ?_ _)); refine blk_far ?_ NB348_359.out _; (with_reducible repeat (first | refine blk_drewN ?_ _ | refine blk_drew ?_ | refine blk_alloc ?_ _)); refine blk_far ?_ NB348_359.out _; (with_reducible repeat (first | refine blk_drewN ?_ _ | refine blk_drew ?_ | refine blk_alloc ?_ _)); refine blk_far ?_ NB348_359.out _; (with_reducible repeat (first | refine blk_drewN ?_ _ | refine blk_drew ?_ | refine blk_alloc ?_ _)); refine blk_far ?_ NB348_359.out _; (with_reducible repeat (first | refine blk_drewN ?_ _ | refine blk_drew ?_ | refine blk_alloc ?_ _)); refine blk_far ?_ NB348_359.out _; (with_reducible repeat (first | refine blk_drewN ?_ _ | refine blk_drew ?_ | refine blk_alloc ?_ _)); refine blk_far ?_ NB348_359.out _; (with_reducible repeat (first | refine blk_drewN ?_ _ | refine blk_drew ?_ | refine blk_alloc ?_ _)); refine blk_far ?_ NB348_359.out _; (with_reducible repeat (first | refine blk_drewN ?_ _ | refine blk_drew ?_ | refine blk_alloc ?_ _)); refine blk_far ?_ NB348_359.out _; (with_reducible repeat (first | refine blk_drewN ?_ _ | refine blk_drew ?_ | refine blk_alloc ?_ _)); exact BK348.out⟩
    have n2_ : Aside0 ((((((((((w36.setCell ⟨gb359, 0, none⟩ (.int .u32 t349)).setCell ⟨gb359, 1, none⟩ (.int .u32 t350)).setCell ⟨gb359, 2, none⟩ (.int .u64 t351)).setCell ⟨gb359, 3, none⟩ (.int .u64 t352)).setCell ⟨gb359, 4, none⟩ (.int .u64 t353)).setCell ⟨gb359, 5, none⟩ (.int .u64 t354)).setCell ⟨gb359, 6, none⟩ (.int .u64 t355)).setCell ⟨gb359, 7, none⟩ (.int .u64 t356)).setCell ⟨gb359, 8, none⟩ (.int .u64 t357)).heap[gb359]? = some (.cells #[.int .u32 t349, .int .u32 t350, .int .u64 t351, .int .u64 t352, .int .u64 t353, .int .u64 t354, .int .u64 t355, .int .u64 t356, .int .u64 t357] 26 (0, 0))) := ⟨by (with_reducible repeat (first | refine blk_drewN ?_ _ | refine blk_drew ?_ | refine blk_alloc ?_ _)); refine blk_put (cs := #[.int .u32 t349, .int .u32 t350, .int .u64 t351, .int .u64 t352, .int .u64 t353, .int .u64 t354, .int .u64 t355, .int .u64 t356, .int .u64 0]) ?_ 8 _ rfl; (with_reducible repeat (first | refine blk_drewN ?_ _ | refine blk_drew ?_ | refine blk_alloc ?_ _)); refine blk_put (cs := #[.int .u32 t349, .int .u32 t350, .int .u64 t351, .int .u64 t352, .int .u64 t353, .int .u64 t354, .int .u64 t355, .int .u64 0, .int .u64 0]) ?_ 7 _ rfl; (with_reducible repeat (first | refine blk_drewN ?_ _ | refine blk_drew ?_ | refine blk_alloc ?_ _)); refine blk_put (cs := #[.int .u32 t349, .int .u32 t350, .int .u64 t351, .int .u64 t352, .int .u64 t353, .int .u64 t354, .int .u64 0, .int .u64 0, .int .u64 0]) ?_ 6 _ rfl; (with_reducible repeat (first | refine blk_drewN ?_ _ | refine blk_drew ?_ | refine blk_alloc ?_ _)); refine blk_put (cs := #[.int .u32 t349, .int .u32 t350, .int .u64 t351, .int .u64 t352, .int .u64 t353, .int .u64 0, .int .u64 0, .int .u64 0, .int .u64 0]) ?_ 5 _ rfl; (with_reducible repeat (first | refine blk_drewN ?_ _ | refine blk_drew ?_ | refine blk_alloc ?_ _)); refine blk_put (cs := #[.int .u32 t349, .int .u32 t350, .int .u64 t351, .int .u64 t352, .int .u64 0, .int .u64 0, .int .u64 0, .int .u64 0, .int .u64 0]) ?_ 4 _ rfl; (with_reducible repeat (first | refine blk_drewN ?_ _ | refine blk_drew ?_ | refine blk_alloc ?_ _)); refine blk_put (cs := #[.int .u32 t349, .int .u32 t350, .int .u64 t351, .int .u64 0, .int .u64 0, .int .u64 0, .int .u64 0, .int .u64 0, .int .u64 0]) ?_ 3 _ rfl; (with_reducible repeat (first | refine blk_drewN ?_ _ | refine blk_drew ?_ | refine blk_alloc ?_ _)); refine blk_put (cs := #[.int .u32 t349, .int .u32 t350, .int .u64 0, .int .u64 0, .int .u64 0, .int .u64 0, .int .u64 0, .int .u64 0, .int .u64 0]) ?_ 2 _ rfl; (with_reducible repeat (first | refine blk_drewN ?_ _ | refine blk_drew ?_ | refine blk_alloc ?_ _)); refine blk_put (cs := #[.int .u32 t349, .int .u32 0, .int .u64 0, .int .u64 0, .int .u64 0, .int .u64 0, .int .u64 0, .int .u64 0, .int .u64 0]) ?_ 1 _ rfl; (with_reducible repeat (first | refine blk_drewN ?_ _ | refine blk_drew ?_ | refine blk_alloc ?_ _)); refine blk_put (cs := #[.int .u32 0, .int .u32 0, .int .u64 0, .int .u64 0, .int .u64 0, .int .u64 0, .int .u64 0, .int .u64 0, .int .u64 0]) ?_ 0 _ rfl; (with_reducible repeat (first | refine blk_drewN ?_ _ | refine blk_drew ?_ | refine blk_alloc ?_ _)); exact BK359.out⟩
    have n3_ : Aside0 (Below w.heap.size w (((((((((w36.setCell ⟨gb359, 0, none⟩ (.int .u32 t349)).setCell ⟨gb359, 1, none⟩ (.int .u32 t350)).setCell ⟨gb359, 2, none⟩ (.int .u64 t351)).setCell ⟨gb359, 3, none⟩ (.int .u64 t352)).setCell ⟨gb359, 4, none⟩ (.int .u64 t353)).setCell ⟨gb359, 5, none⟩ (.int .u64 t354)).setCell ⟨gb359, 6, none⟩ (.int .u64 t355)).setCell ⟨gb359, 7, none⟩ (.int .u64 t356)).setCell ⟨gb359, 8, none⟩ (.int .u64 t357))) := ⟨by repeat (first | (with_reducible first | exact HB.out | apply below_alloc | apply pw_below_drewN | apply below_drew1 | refine below_set ?_ GE336.out | refine below_set ?_ GE348.out | refine below_set ?_ GE359.out) | exact HB.out)⟩
    (try clear BK336)
    (try clear BK348)
    (try clear BK359)
    (try clear HB)
    generalize (((((((((w36.setCell ⟨gb359, 0, none⟩ (.int .u32 t349)).setCell ⟨gb359, 1, none⟩ (.int .u32 t350)).setCell ⟨gb359, 2, none⟩ (.int .u64 t351)).setCell ⟨gb359, 3, none⟩ (.int .u64 t352)).setCell ⟨gb359, 4, none⟩ (.int .u64 t353)).setCell ⟨gb359, 5, none⟩ (.int .u64 t354)).setCell ⟨gb359, 6, none⟩ (.int .u64 t355)).setCell ⟨gb359, 7, none⟩ (.int .u64 t356)).setCell ⟨gb359, 8, none⟩ (.int .u64 t357)) = w40 at n0_ n1_ n2_ n3_ ⊢
    have BK336 := n0_
    have BK348 := n1_
    have BK359 := n2_
    have HB := n3_
    clear n0_ n1_ n2_ n3_
    have n0_ := Aside0.mk (blk_drew BK336.out)
    have n1_ := Aside0.mk (blk_drew BK348.out)
    have n2_ := Aside0.mk (blk_drew BK359.out)
    have n3_ := Aside0.mk (below_drew1 HB.out)
    clear BK336
    clear BK348
    clear BK359
    clear HB
    have BK336 := n0_
    have BK348 := n1_
    have BK359 := n2_
    have HB := n3_
    clear n0_ n1_ n2_ n3_
    refine start_ (n := 21) (S := fun w' => w'.cell? ⟨gb336, 0, none⟩ = some (.int .u32 a0_0) ∧ w'.cell? ⟨gb336, 1, none⟩ = some (.int .u32 a0_1) ∧ w'.cell? ⟨gb336, 2, none⟩ = some (.int .u64 a0_2) ∧ w'.cell? ⟨gb336, 3, none⟩ = some (.int .u64 a0_3) ∧ w'.cell? ⟨gb336, 4, none⟩ = some (.int .u64 a0_4) ∧ w'.cell? ⟨gb336, 5, none⟩ = some (.int .u64 a0_5) ∧ w'.cell? ⟨gb336, 6, none⟩ = some (.int .u64 a0_6) ∧ w'.cell? ⟨gb336, 7, none⟩ = some (.int .u64 a0_7) ∧ w'.cell? ⟨gb336, 8, none⟩ = some (.int .u64 a0_8) ∧ w'.cell? ⟨gb348, 0, none⟩ = some (.int .u32 t338) ∧ w'.cell? ⟨gb348, 1, none⟩ = some (.int .u32 t339) ∧ w'.cell? ⟨gb348, 2, none⟩ = some (.int .u64 t340) ∧ w'.cell? ⟨gb348, 3, none⟩ = some (.int .u64 t341) ∧ w'.cell? ⟨gb348, 4, none⟩ = some (.int .u64 t342) ∧ w'.cell? ⟨gb348, 5, none⟩ = some (.int .u64 t343) ∧ w'.cell? ⟨gb348, 6, none⟩ = some (.int .u64 t344) ∧ w'.cell? ⟨gb348, 7, none⟩ = some (.int .u64 t345) ∧ w'.cell? ⟨gb348, 8, none⟩ = some (.int .u64 t346) ∧ w'.cell? ⟨gb359, 0, none⟩ = some (.int .u32 t349) ∧ w'.cell? ⟨gb359, 1, none⟩ = some (.int .u32 t350) ∧ w'.cell? ⟨gb359, 2, none⟩ = some (.int .u64 t351) ∧ w'.cell? ⟨gb359, 3, none⟩ = some (.int .u64 t352) ∧ w'.cell? ⟨gb359, 4, none⟩ = some (.int .u64 t353) ∧ w'.cell? ⟨gb359, 5, none⟩ = some (.int .u64 t354) ∧ w'.cell? ⟨gb359, 6, none⟩ = some (.int .u64 t355) ∧ w'.cell? ⟨gb359, 7, none⟩ = some (.int .u64 t356) ∧ w'.cell? ⟨gb359, 8, none⟩ = some (.int .u64 t357)) (ds := []) #[false, false, false, false, false, false, false, false, false, false, false, false, false, false, false, false, false, false, false, false, false] (by kernel_rfl) rfl rfl ⟨(blk_cell BK336.out 0).trans rfl, (blk_cell BK336.out 1).trans rfl, (blk_cell BK336.out 2).trans rfl, (blk_cell BK336.out 3).trans rfl, (blk_cell BK336.out 4).trans rfl, (blk_cell BK336.out 5).trans rfl, (blk_cell BK336.out 6).trans rfl, (blk_cell BK336.out 7).trans rfl, (blk_cell BK336.out 8).trans rfl, (blk_cell BK348.out 0).trans rfl, (blk_cell BK348.out 1).trans rfl, (blk_cell BK348.out 2).trans rfl, (blk_cell BK348.out 3).trans rfl, (blk_cell BK348.out 4).trans rfl, (blk_cell BK348.out 5).trans rfl, (blk_cell BK348.out 6).trans rfl, (blk_cell BK348.out 7).trans rfl, (blk_cell BK348.out 8).trans rfl, (blk_cell BK359.out 0).trans rfl, (blk_cell BK359.out 1).trans rfl, (blk_cell BK359.out 2).trans rfl, (blk_cell BK359.out 3).trans rfl, (blk_cell BK359.out 4).trans rfl, (blk_cell BK359.out 5).trans rfl, (blk_cell BK359.out 6).trans rfl, (blk_cell BK359.out 7).trans rfl, (blk_cell BK359.out 8).trans rfl⟩ (fun hHeld => ?_); refine with_tabW fairleadlaw04_DataBytes.tab4 fairleadlaw04_DataBytes.bits4 (fun HT_ HW_ => ?_)
    generalize w40.drew = w41 at BK336 BK348 BK359 HB hHeld ⊢
    refine pure_ (i := 0) (N := some 21) (v := ?_) (a' := ?_) #[true, false, false, false, false, false, false, false, false, false, false, false, false, false, false, false, false, false, false, false, false] rfl rfl (any_of HT_.out (by kernel_rfl)) (fun _ _ _ h => h) (Or.inl ⟨by rfl, ?_⟩) ?_ ?_
    rotate_left
    ·intro w'
     go_simp
     with_reducible rfl
    rotate_left
    ·simp only [Act.put, List.setIfInBounds_toArray, List.set_cons_zero, List.set_cons_succ, i64_w, i32_w]
     rfl
    refine pure_ (i := 1) (N := some 22) (v := ?_) (a' := ?_) #[true, true, false, false, false, false, false, false, false, false, false, false, false, false, false, false, false, false, false, false, false] rfl rfl (any_of HT_.out (by kernel_rfl)) (fun _ _ _ h => h) (Or.inl ⟨by rfl, ?_⟩) ?_ ?_
    rotate_left
    ·intro w'
     go_simp
     with_reducible rfl
    rotate_left
    ·simp only [Act.put, List.setIfInBounds_toArray, List.set_cons_zero, List.set_cons_succ, i64_w, i32_w]
     rfl
    refine take_ (i := 2) (N := some 23) (v := ?_) (a' := ?_) #[true, true, true, false, false, false, false, false, false, false, false, false, false, false, false, false, false, false, false, false, false] rfl rfl (take_ofW HT_.out HW_.out (by kernel_rfl)) (fun _ _ _ h => h) (Or.inl ⟨by rfl, ?_⟩) hHeld ?_ ?_
    rotate_left
    ·rintro w' ⟨s0, s1, s2, s3, s4, s5, s6, s7, s8, s9, s10, s11, s12, s13, s14, s15, s16, s17, s18, s19, s20, s21, s22, s23, s24, s25, s26⟩
     go_simp
     with_reducible rfl
    rotate_left
    ·simp only [Act.put, List.setIfInBounds_toArray, List.set_cons_zero, List.set_cons_succ, i64_w, i32_w]
     rfl
    refine take_ (i := 5) (N := some 26) (v := ?_) (a' := ?_) #[true, true, true, false, false, true, false, false, false, false, false, false, false, false, false, false, false, false, false, false, false] rfl rfl (take_ofW HT_.out HW_.out (by kernel_rfl)) (fun _ _ _ h => h) (Or.inl ⟨by rfl, ?_⟩) hHeld ?_ ?_
    rotate_left
    ·rintro w' ⟨s0, s1, s2, s3, s4, s5, s6, s7, s8, s9, s10, s11, s12, s13, s14, s15, s16, s17, s18, s19, s20, s21, s22, s23, s24, s25, s26⟩
     go_simp
     with_reducible rfl
    rotate_left
    ·simp only [Act.put, List.setIfInBounds_toArray, List.set_cons_zero, List.set_cons_succ, i64_w, i32_w]
     rfl
    refine one_ (i := 3) (N := some 24) #[true, true, true, true, false, true, false, false, false, false, false, false, false, false, false, false, false, false, false, false, false] rfl rfl (one_of HT_.out (by kernel_rfl)) (by decide) (fun K hK => ?_)
    refine goes_ Try.func10 (by kernel_rfl) rfl #[.agg #[.int .u32 a0_0, .int .u32 a0_1, .int .u64 a0_2, .int .u64 a0_3, .int .u64 a0_4, .int .u64 a0_5, .int .u64 a0_6, .int .u64 a0_7, .int .u64 a0_8]] (by rfl) rfl rfl (by (try simp only [List.map_toArray, List.map_cons, List.map_nil]); first | done | rfl | (simp only [List.length_drop, List.length_take]; rfl)) ?_
    with_reducible refine (data_Bytes.calls k a0_0 a0_1 a0_2 a0_3 a0_4 a0_5 a0_6 a0_7 a0_8 t360 _ A7.out).mono ?_
    rintro e w42 ⟨v361, rfl, ho0, hb⟩
    refine ⟨_, rfl, ?_⟩
    have n0_ := Aside0.mk (Kd.R_lower ho0 (below_size (by repeat (first | (with_reducible first | exact HB.out | apply below_alloc | apply pw_below_drewN | apply below_drew1 | refine below_set ?_ GE336.out | refine below_set ?_ GE348.out | refine below_set ?_ GE359.out) | exact HB.out))))
    have n1_ := Aside0.mk (blk_below (g := gb336) (o := .cells #[.int .u32 a0_0, .int .u32 a0_1, .int .u64 a0_2, .int .u64 a0_3, .int .u64 a0_4, .int .u64 a0_5, .int .u64 a0_6, .int .u64 a0_7, .int .u64 a0_8] 26 (0, 0)) (by (with_reducible repeat (first | refine blk_drewN ?_ _ | refine blk_drew ?_ | refine blk_alloc ?_ _)); exact BK336.out) hb)
    have n2_ := Aside0.mk (blk_below (g := gb348) (o := .cells #[.int .u32 t338, .int .u32 t339, .int .u64 t340, .int .u64 t341, .int .u64 t342, .int .u64 t343, .int .u64 t344, .int .u64 t345, .int .u64 t346] 26 (0, 0)) (by (with_reducible repeat (first | refine blk_drewN ?_ _ | refine blk_drew ?_ | refine blk_alloc ?_ _)); exact BK348.out) hb)
    have n3_ := Aside0.mk (blk_below (g := gb359) (o := .cells #[.int .u32 t349, .int .u32 t350, .int .u64 t351, .int .u64 t352, .int .u64 t353, .int .u64 t354, .int .u64 t355, .int .u64 t356, .int .u64 t357] 26 (0, 0)) (by (with_reducible repeat (first | refine blk_drewN ?_ _ | refine blk_drew ?_ | refine blk_alloc ?_ _)); exact BK359.out) hb)
    have n4_ := Aside0.mk (below_step (by repeat (first | (with_reducible first | exact HB.out | apply below_alloc | apply pw_below_drewN | apply below_drew1 | refine below_set ?_ GE336.out | refine below_set ?_ GE348.out | refine below_set ?_ GE359.out) | exact HB.out)) hb)
    clear BK336
    clear BK348
    clear BK359
    clear HB
    have HO362 := n0_
    have BK336 := n1_
    have BK348 := n2_
    have BK359 := n3_
    have HB := n4_
    clear n0_ n1_ n2_ n3_ n4_
    (try clear hb)
    (try clear hb2)
    (try clear hk)
    (try clear hi)
    (try clear ho0)
    refine hK.out _ _ ⟨(blk_cell BK336.out 0).trans rfl, (blk_cell BK336.out 1).trans rfl, (blk_cell BK336.out 2).trans rfl, (blk_cell BK336.out 3).trans rfl, (blk_cell BK336.out 4).trans rfl, (blk_cell BK336.out 5).trans rfl, (blk_cell BK336.out 6).trans rfl, (blk_cell BK336.out 7).trans rfl, (blk_cell BK336.out 8).trans rfl, (blk_cell BK348.out 0).trans rfl, (blk_cell BK348.out 1).trans rfl, (blk_cell BK348.out 2).trans rfl, (blk_cell BK348.out 3).trans rfl, (blk_cell BK348.out 4).trans rfl, (blk_cell BK348.out 5).trans rfl, (blk_cell BK348.out 6).trans rfl, (blk_cell BK348.out 7).trans rfl, (blk_cell BK348.out 8).trans rfl, (blk_cell BK359.out 0).trans rfl, (blk_cell BK359.out 1).trans rfl, (blk_cell BK359.out 2).trans rfl, (blk_cell BK359.out 3).trans rfl, (blk_cell BK359.out 4).trans rfl, (blk_cell BK359.out 5).trans rfl, (blk_cell BK359.out 6).trans rfl, (blk_cell BK359.out 7).trans rfl, (blk_cell BK359.out 8).trans rfl⟩ (fun hHeld => ?_)
    clear hK K
    refine norm_ (a' := ?_) ?_ ?_
    rotate_left
    ·show Act.put _ (some 24) _ = _
     simp only [Act.put, List.setIfInBounds_toArray, List.set_cons_zero, List.set_cons_succ, i64_w, i32_w]
     rfl
    refine join_ (σ := Value) 13 #[true, true, true, true, true, true, true, true, false, false, false, false, false, false, false, false, false, false, false, false, false] (fun s_ => [(25, .string (strOfNums t360)), (27, s_), (28, .string (strOfNums t363))]) (fun s_ w' => (w'.cell? ⟨gb336, 0, none⟩ = some (.int .u32 a0_0) ∧ w'.cell? ⟨gb336, 1, none⟩ = some (.int .u32 a0_1) ∧ w'.cell? ⟨gb336, 2, none⟩ = some (.int .u64 a0_2) ∧ w'.cell? ⟨gb336, 3, none⟩ = some (.int .u64 a0_3) ∧ w'.cell? ⟨gb336, 4, none⟩ = some (.int .u64 a0_4) ∧ w'.cell? ⟨gb336, 5, none⟩ = some (.int .u64 a0_5) ∧ w'.cell? ⟨gb336, 6, none⟩ = some (.int .u64 a0_6) ∧ w'.cell? ⟨gb336, 7, none⟩ = some (.int .u64 a0_7) ∧ w'.cell? ⟨gb336, 8, none⟩ = some (.int .u64 a0_8) ∧ w'.cell? ⟨gb348, 0, none⟩ = some (.int .u32 t338) ∧ w'.cell? ⟨gb348, 1, none⟩ = some (.int .u32 t339) ∧ w'.cell? ⟨gb348, 2, none⟩ = some (.int .u64 t340) ∧ w'.cell? ⟨gb348, 3, none⟩ = some (.int .u64 t341) ∧ w'.cell? ⟨gb348, 4, none⟩ = some (.int .u64 t342) ∧ w'.cell? ⟨gb348, 5, none⟩ = some (.int .u64 t343) ∧ w'.cell? ⟨gb348, 6, none⟩ = some (.int .u64 t344) ∧ w'.cell? ⟨gb348, 7, none⟩ = some (.int .u64 t345) ∧ w'.cell? ⟨gb348, 8, none⟩ = some (.int .u64 t346) ∧ w'.cell? ⟨gb359, 0, none⟩ = some (.int .u32 t349) ∧ w'.cell? ⟨gb359, 1, none⟩ = some (.int .u32 t350) ∧ w'.cell? ⟨gb359, 2, none⟩ = some (.int .u64 t351) ∧ w'.cell? ⟨gb359, 3, none⟩ = some (.int .u64 t352) ∧ w'.cell? ⟨gb359, 4, none⟩ = some (.int .u64 t353) ∧ w'.cell? ⟨gb359, 5, none⟩ = some (.int .u64 t354) ∧ w'.cell? ⟨gb359, 6, none⟩ = some (.int .u64 t355) ∧ w'.cell? ⟨gb359, 7, none⟩ = some (.int .u64 t356) ∧ w'.cell? ⟨gb359, 8, none⟩ = some (.int .u64 t357)) ∧ (Kd.R (Kd.int .u8) 5 w' w.heap.size (fun k_ => some k_ ≠ (s_ : Value).ownBlock) v361 t360) ∧ (Kd.R (Kd.int .u8) 5 w' w.heap.size (fun k_ => some k_ ≠ (v361 : Value).ownBlock) s_ t363) ∧ (w'.heap[gb336]? = some (.cells #[.int .u32 a0_0, .int .u32 a0_1, .int .u64 a0_2, .int .u64 a0_3, .int .u64 a0_4, .int .u64 a0_5, .int .u64 a0_6, .int .u64 a0_7, .int .u64 a0_8] 26 (0, 0))) ∧ (w'.heap[gb348]? = some (.cells #[.int .u32 t338, .int .u32 t339, .int .u64 t340, .int .u64 t341, .int .u64 t342, .int .u64 t343, .int .u64 t344, .int .u64 t345, .int .u64 t346] 26 (0, 0))) ∧ (w'.heap[gb359]? = some (.cells #[.int .u32 t349, .int .u32 t350, .int .u64 t351, .int .u64 t352, .int .u64 t353, .int .u64 t354, .int .u64 t355, .int .u64 t356, .int .u64 t357] 26 (0, 0))) ∧ (Below w.heap.size w w')) ?_ ?_
    rotate_left
    ·intro hCont
     refine two_ (i := 4) (j := 6) (Ni := some 25) (Nj := some 27) #[true, true, true, true, true, true, false, false, false, false, false, false, false, false, false, false, false, false, false, false, false] #[true, true, true, true, false, true, true, false, false, false, false, false, false, false, false, false, false, false, false, false, false] rfl rfl rfl rfl (two_of HT_.out (by kernel_rfl)) (by decide) (by decide) (fun K hK => ?_) (fun K hK => ?_)
     ·skip
      have hcv43 := own_string (P := Try.prog) Try.underlying28 Try.underlying5 Try.underlying9 (Kd.own_of_R HO362.out)
      refine value_ (w1 := ?_) (v := ?_) (by rfl) rfl ?_ ?_
      rotate_left 2
      ·go_simp
       constructor
       ·rfl
       ·rfl
      clear hcv43
      refine hK.out _ _ ⟨(blk_cell BK336.out 0).trans rfl, (blk_cell BK336.out 1).trans rfl, (blk_cell BK336.out 2).trans rfl, (blk_cell BK336.out 3).trans rfl, (blk_cell BK336.out 4).trans rfl, (blk_cell BK336.out 5).trans rfl, (blk_cell BK336.out 6).trans rfl, (blk_cell BK336.out 7).trans rfl, (blk_cell BK336.out 8).trans rfl, (blk_cell BK348.out 0).trans rfl, (blk_cell BK348.out 1).trans rfl, (blk_cell BK348.out 2).trans rfl, (blk_cell BK348.out 3).trans rfl, (blk_cell BK348.out 4).trans rfl, (blk_cell BK348.out 5).trans rfl, (blk_cell BK348.out 6).trans rfl, (blk_cell BK348.out 7).trans rfl, (blk_cell BK348.out 8).trans rfl, (blk_cell BK359.out 0).trans rfl, (blk_cell BK359.out 1).trans rfl, (blk_cell BK359.out 2).trans rfl, (blk_cell BK359.out 3).trans rfl, (blk_cell BK359.out 4).trans rfl, (blk_cell BK359.out 5).trans rfl, (blk_cell BK359.out 6).trans rfl, (blk_cell BK359.out 7).trans rfl, (blk_cell BK359.out 8).trans rfl⟩ (fun hHeld => ?_)
      clear hK K
      refine norm_ (a' := ?_) ?_ ?_
      rotate_left
      ·show Act.put _ (some 25) _ = _
       simp only [Act.put, List.setIfInBounds_toArray, List.set_cons_zero, List.set_cons_succ, i64_w, i32_w]
       rfl
      refine one_ (i := 6) (N := some 27) #[true, true, true, true, true, true, true, false, false, false, false, false, false, false, false, false, false, false, false, false, false] rfl rfl (one_of HT_.out (by kernel_rfl)) (by decide) (fun K hK => ?_)
      refine goes_ Try.func17 (by kernel_rfl) rfl #[.agg #[.int .u32 a0_0, .int .u32 a0_1, .int .u64 a0_2, .int .u64 a0_3, .int .u64 a0_4, .int .u64 a0_5, .int .u64 a0_6, .int .u64 a0_7, .int .u64 a0_8]] (by rfl) rfl rfl (by (try simp only [List.map_toArray, List.map_cons, List.map_nil]); first | done | rfl | (simp only [List.length_drop, List.length_take]; rfl)) ?_
      with_reducible refine (fairleadref04_Bytes.calls k a0_0 a0_1 a0_2 a0_3 a0_4 a0_5 a0_6 a0_7 a0_8 t363 _ A8.out).mono ?_
      rintro e w44 ⟨v364, rfl, ho0, hb⟩
      refine ⟨_, rfl, ?_⟩
      have n0_ := Aside0.mk (Kd.R_elder' (by (with_reducible repeat (first | apply Kd.R_alloc | apply Kd.R_drewN | apply Kd.R_drew)); exact HO362.out) (Kd.R_base ho0) hb)
      have n1_ := Aside0.mk (Kd.R_lower (Kd.R_new' ho0 (Kd.R_lt (by (with_reducible repeat (first | apply Kd.R_alloc | apply Kd.R_drewN | apply Kd.R_drew)); exact HO362.out))) (below_size (by repeat (first | (with_reducible first | exact HB.out | apply below_alloc | apply pw_below_drewN | apply below_drew1 | refine below_set ?_ GE336.out | refine below_set ?_ GE348.out | refine below_set ?_ GE359.out) | exact HB.out))))
      have n2_ := Aside0.mk (blk_below (g := gb336) (o := .cells #[.int .u32 a0_0, .int .u32 a0_1, .int .u64 a0_2, .int .u64 a0_3, .int .u64 a0_4, .int .u64 a0_5, .int .u64 a0_6, .int .u64 a0_7, .int .u64 a0_8] 26 (0, 0)) (by (with_reducible repeat (first | refine blk_drewN ?_ _ | refine blk_drew ?_ | refine blk_alloc ?_ _)); exact BK336.out) hb)
      have n3_ := Aside0.mk (blk_below (g := gb348) (o := .cells #[.int .u32 t338, .int .u32 t339, .int .u64 t340, .int .u64 t341, .int .u64 t342, .int .u64 t343, .int .u64 t344, .int .u64 t345, .int .u64 t346] 26 (0, 0)) (by (with_reducible repeat (first | refine blk_drewN ?_ _ | refine blk_drew ?_ | refine blk_alloc ?_ _)); exact BK348.out) hb)
      have n4_ := Aside0.mk (blk_below (g := gb359) (o := .cells #[.int .u32 t349, .int .u32 t350, .int .u64 t351, .int .u64 t352, .int .u64 t353, .int .u64 t354, .int .u64 t355, .int .u64 t356, .int .u64 t357] 26 (0, 0)) (by (with_reducible repeat (first | refine blk_drewN ?_ _ | refine blk_drew ?_ | refine blk_alloc ?_ _)); exact BK359.out) hb)
      have n5_ := Aside0.mk (below_step (by repeat (first | (with_reducible first | exact HB.out | apply below_alloc | apply pw_below_drewN | apply below_drew1 | refine below_set ?_ GE336.out | refine below_set ?_ GE348.out | refine below_set ?_ GE359.out) | exact HB.out)) hb)
      clear HO362
      clear BK336
      clear BK348
      clear BK359
      clear HB
      have HO362 := n0_
      have HO365 := n1_
      have BK336 := n2_
      have BK348 := n3_
      have BK359 := n4_
      have HB := n5_
      clear n0_ n1_ n2_ n3_ n4_ n5_
      (try clear hb)
      (try clear hb2)
      (try clear hk)
      (try clear hi)
      (try clear ho0)
      refine hK.out _ _ ⟨(blk_cell BK336.out 0).trans rfl, (blk_cell BK336.out 1).trans rfl, (blk_cell BK336.out 2).trans rfl, (blk_cell BK336.out 3).trans rfl, (blk_cell BK336.out 4).trans rfl, (blk_cell BK336.out 5).trans rfl, (blk_cell BK336.out 6).trans rfl, (blk_cell BK336.out 7).trans rfl, (blk_cell BK336.out 8).trans rfl, (blk_cell BK348.out 0).trans rfl, (blk_cell BK348.out 1).trans rfl, (blk_cell BK348.out 2).trans rfl, (blk_cell BK348.out 3).trans rfl, (blk_cell BK348.out 4).trans rfl, (blk_cell BK348.out 5).trans rfl, (blk_cell BK348.out 6).trans rfl, (blk_cell BK348.out 7).trans rfl, (blk_cell BK348.out 8).trans rfl, (blk_cell BK359.out 0).trans rfl, (blk_cell BK359.out 1).trans rfl, (blk_cell BK359.out 2).trans rfl, (blk_cell BK359.out 3).trans rfl, (blk_cell BK359.out 4).trans rfl, (blk_cell BK359.out 5).trans rfl, (blk_cell BK359.out 6).trans rfl, (blk_cell BK359.out 7).trans rfl, (blk_cell BK359.out 8).trans rfl⟩ (fun hHeld => ?_)
      clear hK K
      refine norm_ (a' := ?_) ?_ ?_
      rotate_left
      ·show Act.put _ (some 27) _ = _
       simp only [Act.put, List.setIfInBounds_toArray, List.set_cons_zero, List.set_cons_succ, i64_w, i32_w]
       rfl
      refine one_ (i := 7) (N := some 28) #[true, true, true, true, true, true, true, true, false, false, false, false, false, false, false, false, false, false, false, false, false] rfl rfl (one_of HT_.out (by kernel_rfl)) (by decide) (fun K hK => ?_)
      have hcv45 := own_string (P := Try.prog) Try.underlying28 Try.underlying5 Try.underlying9 (Kd.own_of_R HO365.out)
      refine value_ (w1 := ?_) (v := ?_) (by rfl) rfl ?_ ?_
      rotate_left 2
      ·go_simp
       constructor
       ·rfl
       ·rfl
      clear hcv45
      refine hK.out _ _ ⟨(blk_cell BK336.out 0).trans rfl, (blk_cell BK336.out 1).trans rfl, (blk_cell BK336.out 2).trans rfl, (blk_cell BK336.out 3).trans rfl, (blk_cell BK336.out 4).trans rfl, (blk_cell BK336.out 5).trans rfl, (blk_cell BK336.out 6).trans rfl, (blk_cell BK336.out 7).trans rfl, (blk_cell BK336.out 8).trans rfl, (blk_cell BK348.out 0).trans rfl, (blk_cell BK348.out 1).trans rfl, (blk_cell BK348.out 2).trans rfl, (blk_cell BK348.out 3).trans rfl, (blk_cell BK348.out 4).trans rfl, (blk_cell BK348.out 5).trans rfl, (blk_cell BK348.out 6).trans rfl, (blk_cell BK348.out 7).trans rfl, (blk_cell BK348.out 8).trans rfl, (blk_cell BK359.out 0).trans rfl, (blk_cell BK359.out 1).trans rfl, (blk_cell BK359.out 2).trans rfl, (blk_cell BK359.out 3).trans rfl, (blk_cell BK359.out 4).trans rfl, (blk_cell BK359.out 5).trans rfl, (blk_cell BK359.out 6).trans rfl, (blk_cell BK359.out 7).trans rfl, (blk_cell BK359.out 8).trans rfl⟩ (fun hHeld => ?_)
      clear hK K
      refine norm_ (a' := ?_) ?_ ?_
      rotate_left
      ·show Act.put _ (some 28) _ = _
       simp only [Act.put, List.setIfInBounds_toArray, List.set_cons_zero, List.set_cons_succ, i64_w, i32_w]
       rfl
      exact norm_ (by simp only [putAll, Act.put, List.setIfInBounds_toArray, List.set_cons_zero, List.set_cons_succ] <;> (try simp only [IntKind.wrap_u32])) (hCont (v364) _ ⟨hHeld, (by (with_reducible repeat (first | apply Kd.R_alloc | apply Kd.R_drewN | apply Kd.R_drew)); exact Kd.R_mono HO362.out (fun _ hk => by first | exact hk.2 | exact hk | exact trivial)), (by (with_reducible repeat (first | apply Kd.R_alloc | apply Kd.R_drewN | apply Kd.R_drew)); exact Kd.R_mono HO365.out (fun _ hk => by first | exact hk.2 | exact hk | exact trivial)), (by (with_reducible repeat (first | refine blk_drewN ?_ _ | refine blk_drew ?_ | refine blk_alloc ?_ _)); exact BK336.out), (by (with_reducible repeat (first | refine blk_drewN ?_ _ | refine blk_drew ?_ | refine blk_alloc ?_ _)); exact BK348.out), (by (with_reducible repeat (first | refine blk_drewN ?_ _ | refine blk_drew ?_ | refine blk_alloc ?_ _)); exact BK359.out), (by repeat (first | (with_reducible first | exact HB.out | apply below_alloc | apply pw_below_drewN | apply below_drew1 | refine below_set ?_ GE336.out | refine below_set ?_ GE348.out | refine below_set ?_ GE359.out) | exact HB.out))⟩)
     ·skip
      refine goes_ Try.func17 (by kernel_rfl) rfl #[.agg #[.int .u32 a0_0, .int .u32 a0_1, .int .u64 a0_2, .int .u64 a0_3, .int .u64 a0_4, .int .u64 a0_5, .int .u64 a0_6, .int .u64 a0_7, .int .u64 a0_8]] (by rfl) rfl rfl (by (try simp only [List.map_toArray, List.map_cons, List.map_nil]); first | done | rfl | (simp only [List.length_drop, List.length_take]; rfl)) ?_
      with_reducible refine (fairleadref04_Bytes.calls k a0_0 a0_1 a0_2 a0_3 a0_4 a0_5 a0_6 a0_7 a0_8 t363 _ A8.out).mono ?_
      rintro e w43 ⟨v364, rfl, ho0, hb⟩
      refine ⟨_, rfl, ?_⟩
      have n0_ := Aside0.mk (Kd.R_elder' (by (with_reducible repeat (first | apply Kd.R_alloc | apply Kd.R_drewN | apply Kd.R_drew)); exact HO362.out) (Kd.R_base ho0) hb)
      have n1_ := Aside0.mk (Kd.R_lower (Kd.R_new' ho0 (Kd.R_lt (by (with_reducible repeat (first | apply Kd.R_alloc | apply Kd.R_drewN | apply Kd.R_drew)); exact HO362.out))) (below_size (by repeat (first | (with_reducible first | exact HB.out | apply below_alloc | apply pw_below_drewN | apply below_drew1 | refine below_set ?_ GE336.out | refine below_set ?_ GE348.out | refine below_set ?_ GE359.out) | exact HB.out))))
      have n2_ := Aside0.mk (blk_below (g := gb336) (o := .cells #[.int .u32 a0_0, .int .u32 a0_1, .int .u64 a0_2, .int .u64 a0_3, .int .u64 a0_4, .int .u64 a0_5, .int .u64 a0_6, .int .u64 a0_7, .int .u64 a0_8] 26 (0, 0)) (by (with_reducible repeat (first | refine blk_drewN ?_ _ | refine blk_drew ?_ | refine blk_alloc ?_ _)); exact BK336.out) hb)
      have n3_ := Aside0.mk (blk_below (g := gb348) (o := .cells #[.int .u32 t338, .int .u32 t339, .int .u64 t340, .int .u64 t341, .int .u64 t342, .int .u64 t343, .int .u64 t344, .int .u64 t345, .int .u64 t346] 26 (0, 0)) (by (with_reducible repeat (first | refine blk_drewN ?_ _ | refine blk_drew ?_ | refine blk_alloc ?_ _)); exact BK348.out) hb)
      have n4_ := Aside0.mk (blk_below (g := gb359) (o := .cells #[.int .u32 t349, .int .u32 t350, .int .u64 t351, .int .u64 t352, .int .u64 t353, .int .u64 t354, .int .u64 t355, .int .u64 t356, .int .u64 t357] 26 (0, 0)) (by (with_reducible repeat (first | refine blk_drewN ?_ _ | refine blk_drew ?_ | refine blk_alloc ?_ _)); exact BK359.out) hb)
      have n5_ := Aside0.mk (below_step (by repeat (first | (with_reducible first | exact HB.out | apply below_alloc | apply pw_below_drewN | apply below_drew1 | refine below_set ?_ GE336.out | refine below_set ?_ GE348.out | refine below_set ?_ GE359.out) | exact HB.out)) hb)
      clear HO362
      clear BK336
      clear BK348
      clear BK359
      clear HB
      have HO362 := n0_
      have HO365 := n1_
      have BK336 := n2_
      have BK348 := n3_
      have BK359 := n4_
      have HB := n5_
      clear n0_ n1_ n2_ n3_ n4_ n5_
      (try clear hb)
      (try clear hb2)
      (try clear hk)
      (try clear hi)
      (try clear ho0)
      refine hK.out _ _ ⟨(blk_cell BK336.out 0).trans rfl, (blk_cell BK336.out 1).trans rfl, (blk_cell BK336.out 2).trans rfl, (blk_cell BK336.out 3).trans rfl, (blk_cell BK336.out 4).trans rfl, (blk_cell BK336.out 5).trans rfl, (blk_cell BK336.out 6).trans rfl, (blk_cell BK336.out 7).trans rfl, (blk_cell BK336.out 8).trans rfl, (blk_cell BK348.out 0).trans rfl, (blk_cell BK348.out 1).trans rfl, (blk_cell BK348.out 2).trans rfl, (blk_cell BK348.out 3).trans rfl, (blk_cell BK348.out 4).trans rfl, (blk_cell BK348.out 5).trans rfl, (blk_cell BK348.out 6).trans rfl, (blk_cell BK348.out 7).trans rfl, (blk_cell BK348.out 8).trans rfl, (blk_cell BK359.out 0).trans rfl, (blk_cell BK359.out 1).trans rfl, (blk_cell BK359.out 2).trans rfl, (blk_cell BK359.out 3).trans rfl, (blk_cell BK359.out 4).trans rfl, (blk_cell BK359.out 5).trans rfl, (blk_cell BK359.out 6).trans rfl, (blk_cell BK359.out 7).trans rfl, (blk_cell BK359.out 8).trans rfl⟩ (fun hHeld => ?_)
      clear hK K
      refine norm_ (a' := ?_) ?_ ?_
      rotate_left
      ·show Act.put _ (some 27) _ = _
       simp only [Act.put, List.setIfInBounds_toArray, List.set_cons_zero, List.set_cons_succ, i64_w, i32_w]
       rfl
      refine two_ (i := 4) (j := 7) (Ni := some 25) (Nj := some 28) #[true, true, true, true, true, true, true, false, false, false, false, false, false, false, false, false, false, false, false, false, false] #[true, true, true, true, false, true, true, true, false, false, false, false, false, false, false, false, false, false, false, false, false] rfl rfl rfl rfl (two_of HT_.out (by kernel_rfl)) (by decide) (by decide) (fun K hK => ?_) (fun K hK => ?_)
      ·skip
       have hcv44 := own_string (P := Try.prog) Try.underlying28 Try.underlying5 Try.underlying9 (Kd.own_of_R HO362.out)
       refine value_ (w1 := ?_) (v := ?_) (by rfl) rfl ?_ ?_
       rotate_left 2
       ·go_simp
        constructor
        ·rfl
        ·rfl
       clear hcv44
       refine hK.out _ _ ⟨(blk_cell BK336.out 0).trans rfl, (blk_cell BK336.out 1).trans rfl, (blk_cell BK336.out 2).trans rfl, (blk_cell BK336.out 3).trans rfl, (blk_cell BK336.out 4).trans rfl, (blk_cell BK336.out 5).trans rfl, (blk_cell BK336.out 6).trans rfl, (blk_cell BK336.out 7).trans rfl, (blk_cell BK336.out 8).trans rfl, (blk_cell BK348.out 0).trans rfl, (blk_cell BK348.out 1).trans rfl, (blk_cell BK348.out 2).trans rfl, (blk_cell BK348.out 3).trans rfl, (blk_cell BK348.out 4).trans rfl, (blk_cell BK348.out 5).trans rfl, (blk_cell BK348.out 6).trans rfl, (blk_cell BK348.out 7).trans rfl, (blk_cell BK348.out 8).trans rfl, (blk_cell BK359.out 0).trans rfl, (blk_cell BK359.out 1).trans rfl, (blk_cell BK359.out 2).trans rfl, (blk_cell BK359.out 3).trans rfl, (blk_cell BK359.out 4).trans rfl, (blk_cell BK359.out 5).trans rfl, (blk_cell BK359.out 6).trans rfl, (blk_cell BK359.out 7).trans rfl, (blk_cell BK359.out 8).trans rfl⟩ (fun hHeld => ?_)
       clear hK K
       refine norm_ (a' := ?_) ?_ ?_
       rotate_left
       ·show Act.put _ (some 25) _ = _
        simp only [Act.put, List.setIfInBounds_toArray, List.set_cons_zero, List.set_cons_succ, i64_w, i32_w]
        rfl
       refine one_ (i := 7) (N := some 28) #[true, true, true, true, true, true, true, true, false, false, false, false, false, false, false, false, false, false, false, false, false] rfl rfl (one_of HT_.out (by kernel_rfl)) (by decide) (fun K hK => ?_)
       have hcv45 := own_string (P := Try.prog) Try.underlying28 Try.underlying5 Try.underlying9 (Kd.own_of_R HO365.out)
       refine value_ (w1 := ?_) (v := ?_) (by rfl) rfl ?_ ?_
       rotate_left 2
       ·go_simp
        constructor
        ·rfl
        ·rfl
       clear hcv45
       refine hK.out _ _ ⟨(blk_cell BK336.out 0).trans rfl, (blk_cell BK336.out 1).trans rfl, (blk_cell BK336.out 2).trans rfl, (blk_cell BK336.out 3).trans rfl, (blk_cell BK336.out 4).trans rfl, (blk_cell BK336.out 5).trans rfl, (blk_cell BK336.out 6).trans rfl, (blk_cell BK336.out 7).trans rfl, (blk_cell BK336.out 8).trans rfl, (blk_cell BK348.out 0).trans rfl, (blk_cell BK348.out 1).trans rfl, (blk_cell BK348.out 2).trans rfl, (blk_cell BK348.out 3).trans rfl, (blk_cell BK348.out 4).trans rfl, (blk_cell BK348.out 5).trans rfl, (blk_cell BK348.out 6).trans rfl, (blk_cell BK348.out 7).trans rfl, (blk_cell BK348.out 8).trans rfl, (blk_cell BK359.out 0).trans rfl, (blk_cell BK359.out 1).trans rfl, (blk_cell BK359.out 2).trans rfl, (blk_cell BK359.out 3).trans rfl, (blk_cell BK359.out 4).trans rfl, (blk_cell BK359.out 5).trans rfl, (blk_cell BK359.out 6).trans rfl, (blk_cell BK359.out 7).trans rfl, (blk_cell BK359.out 8).trans rfl⟩ (fun hHeld => ?_)
       clear hK K
       refine norm_ (a' := ?_) ?_ ?_
       rotate_left
       ·show Act.put _ (some 28) _ = _
        simp only [Act.put, List.setIfInBounds_toArray, List.set_cons_zero, List.set_cons_succ, i64_w, i32_w]
        rfl
       exact norm_ (by simp only [putAll, Act.put, List.setIfInBounds_toArray, List.set_cons_zero, List.set_cons_succ] <;> (try simp only [IntKind.wrap_u32])) (hCont (v364) _ ⟨hHeld, (by (with_reducible repeat (first | apply Kd.R_alloc | apply Kd.R_drewN | apply Kd.R_drew)); exact Kd.R_mono HO362.out (fun _ hk => by first | exact hk.2 | exact hk | exact trivial)), (by (with_reducible repeat (first | apply Kd.R_alloc | apply Kd.R_drewN | apply Kd.R_drew)); exact Kd.R_mono HO365.out (fun _ hk => by first | exact hk.2 | exact hk | exact trivial)), (by (with_reducible repeat (first | refine blk_drewN ?_ _ | refine blk_drew ?_ | refine blk_alloc ?_ _)); exact BK336.out), (by (with_reducible repeat (first | refine blk_drewN ?_ _ | refine blk_drew ?_ | refine blk_alloc ?_ _)); exact BK348.out), (by (with_reducible repeat (first | refine blk_drewN ?_ _ | refine blk_drew ?_ | refine blk_alloc ?_ _)); exact BK359.out), (by repeat (first | (with_reducible first | exact HB.out | apply below_alloc | apply pw_below_drewN | apply below_drew1 | refine below_set ?_ GE336.out | refine below_set ?_ GE348.out | refine below_set ?_ GE359.out) | exact HB.out))⟩)
      ·skip
       have hcv44 := own_string (P := Try.prog) Try.underlying28 Try.underlying5 Try.underlying9 (Kd.own_of_R HO365.out)
       refine value_ (w1 := ?_) (v := ?_) (by rfl) rfl ?_ ?_
       rotate_left 2
       ·go_simp
        constructor
        ·rfl
        ·rfl
       clear hcv44
       refine hK.out _ _ ⟨(blk_cell BK336.out 0).trans rfl, (blk_cell BK336.out 1).trans rfl, (blk_cell BK336.out 2).trans rfl, (blk_cell BK336.out 3).trans rfl, (blk_cell BK336.out 4).trans rfl, (blk_cell BK336.out 5).trans rfl, (blk_cell BK336.out 6).trans rfl, (blk_cell BK336.out 7).trans rfl, (blk_cell BK336.out 8).trans rfl, (blk_cell BK348.out 0).trans rfl, (blk_cell BK348.out 1).trans rfl, (blk_cell BK348.out 2).trans rfl, (blk_cell BK348.out 3).trans rfl, (blk_cell BK348.out 4).trans rfl, (blk_cell BK348.out 5).trans rfl, (blk_cell BK348.out 6).trans rfl, (blk_cell BK348.out 7).trans rfl, (blk_cell BK348.out 8).trans rfl, (blk_cell BK359.out 0).trans rfl, (blk_cell BK359.out 1).trans rfl, (blk_cell BK359.out 2).trans rfl, (blk_cell BK359.out 3).trans rfl, (blk_cell BK359.out 4).trans rfl, (blk_cell BK359.out 5).trans rfl, (blk_cell BK359.out 6).trans rfl, (blk_cell BK359.out 7).trans rfl, (blk_cell BK359.out 8).trans rfl⟩ (fun hHeld => ?_)
       clear hK K
       refine norm_ (a' := ?_) ?_ ?_
       rotate_left
       ·show Act.put _ (some 28) _ = _
        simp only [Act.put, List.setIfInBounds_toArray, List.set_cons_zero, List.set_cons_succ, i64_w, i32_w]
        rfl
       refine one_ (i := 4) (N := some 25) #[true, true, true, true, true, true, true, true, false, false, false, false, false, false, false, false, false, false, false, false, false] rfl rfl (one_of HT_.out (by kernel_rfl)) (by decide) (fun K hK => ?_)
       have hcv45 := own_string (P := Try.prog) Try.underlying28 Try.underlying5 Try.underlying9 (Kd.own_of_R HO362.out)
       refine value_ (w1 := ?_) (v := ?_) (by rfl) rfl ?_ ?_
       rotate_left 2
       ·go_simp
        constructor
        ·rfl
        ·rfl
       clear hcv45
       refine hK.out _ _ ⟨(blk_cell BK336.out 0).trans rfl, (blk_cell BK336.out 1).trans rfl, (blk_cell BK336.out 2).trans rfl, (blk_cell BK336.out 3).trans rfl, (blk_cell BK336.out 4).trans rfl, (blk_cell BK336.out 5).trans rfl, (blk_cell BK336.out 6).trans rfl, (blk_cell BK336.out 7).trans rfl, (blk_cell BK336.out 8).trans rfl, (blk_cell BK348.out 0).trans rfl, (blk_cell BK348.out 1).trans rfl, (blk_cell BK348.out 2).trans rfl, (blk_cell BK348.out 3).trans rfl, (blk_cell BK348.out 4).trans rfl, (blk_cell BK348.out 5).trans rfl, (blk_cell BK348.out 6).trans rfl, (blk_cell BK348.out 7).trans rfl, (blk_cell BK348.out 8).trans rfl, (blk_cell BK359.out 0).trans rfl, (blk_cell BK359.out 1).trans rfl, (blk_cell BK359.out 2).trans rfl, (blk_cell BK359.out 3).trans rfl, (blk_cell BK359.out 4).trans rfl, (blk_cell BK359.out 5).trans rfl, (blk_cell BK359.out 6).trans rfl, (blk_cell BK359.out 7).trans rfl, (blk_cell BK359.out 8).trans rfl⟩ (fun hHeld => ?_)
       clear hK K
       refine norm_ (a' := ?_) ?_ ?_
       rotate_left
       ·show Act.put _ (some 25) _ = _
        simp only [Act.put, List.setIfInBounds_toArray, List.set_cons_zero, List.set_cons_succ, i64_w, i32_w]
        rfl
       exact norm_ (by simp only [putAll, Act.put, List.setIfInBounds_toArray, List.set_cons_zero, List.set_cons_succ] <;> (try simp only [IntKind.wrap_u32])) (hCont (v364) _ ⟨hHeld, (by (with_reducible repeat (first | apply Kd.R_alloc | apply Kd.R_drewN | apply Kd.R_drew)); exact Kd.R_mono HO362.out (fun _ hk => by first | exact hk.2 | exact hk | exact trivial)), (by (with_reducible repeat (first | apply Kd.R_alloc | apply Kd.R_drewN | apply Kd.R_drew)); exact Kd.R_mono HO365.out (fun _ hk => by first | exact hk.2 | exact hk | exact trivial)), (by (with_reducible repeat (first | refine blk_drewN ?_ _ | refine blk_drew ?_ | refine blk_alloc ?_ _)); exact BK336.out), (by (with_reducible repeat (first | refine blk_drewN ?_ _ | refine blk_drew ?_ | refine blk_alloc ?_ _)); exact BK348.out), (by (with_reducible repeat (first | refine blk_drewN ?_ _ | refine blk_drew ?_ | refine blk_alloc ?_ _)); exact BK359.out), (by repeat (first | (with_reducible first | exact HB.out | apply below_alloc | apply pw_below_drewN | apply below_drew1 | refine below_set ?_ GE336.out | refine below_set ?_ GE348.out | refine below_set ?_ GE359.out) | exact HB.out))⟩)
    rintro v364 w46 ⟨hS_, h0_, h1_, h2_, h3_, h4_, h5_⟩
    have n0_ : Aside0 (Kd.R (Kd.int .u8) 5 w46 w.heap.size (fun k_ => some k_ ≠ (v364 : Value).ownBlock) v361 t360) := ⟨h0_⟩
    have n1_ : Aside0 (Kd.R (Kd.int .u8) 5 w46 w.heap.size (fun k_ => some k_ ≠ (v361 : Value).ownBlock) v364 t363) := ⟨h1_⟩
    have n2_ : Aside0 (w46.heap[gb336]? = some (.cells #[.int .u32 a0_0, .int .u32 a0_1, .int .u64 a0_2, .int .u64 a0_3, .int .u64 a0_4, .int .u64 a0_5, .int .u64 a0_6, .int .u64 a0_7, .int .u64 a0_8] 26 (0, 0))) := ⟨h2_⟩
    have n3_ : Aside0 (w46.heap[gb348]? = some (.cells #[.int .u32 t338, .int .u32 t339, .int .u64 t340, .int .u64 t341, .int .u64 t342, .int .u64 t343, .int .u64 t344, .int .u64 t345, .int .u64 t346] 26 (0, 0))) := ⟨h3_⟩
    have n4_ : Aside0 (w46.heap[gb359]? = some (.cells #[.int .u32 t349, .int .u32 t350, .int .u64 t351, .int .u64 t352, .int .u64 t353, .int .u64 t354, .int .u64 t355, .int .u64 t356, .int .u64 t357] 26 (0, 0))) := ⟨h4_⟩
    have n5_ : Aside0 (Below w.heap.size w w46) := ⟨h5_⟩
    clear BK336
    clear BK348
    clear BK359
    clear HB
    clear h0_ h1_ h2_ h3_ h4_ h5_
    have HO362 := n0_
    have HO365 := n1_
    have BK336 := n2_
    have BK348 := n3_
    have BK359 := n4_
    have HB := n5_
    clear n0_ n1_ n2_ n3_ n4_ n5_
    have hHeld : w46.cell? ⟨gb336, 0, none⟩ = some (.int .u32 a0_0) ∧ w46.cell? ⟨gb336, 1, none⟩ = some (.int .u32 a0_1) ∧ w46.cell? ⟨gb336, 2, none⟩ = some (.int .u64 a0_2) ∧ w46.cell? ⟨gb336, 3, none⟩ = some (.int .u64 a0_3) ∧ w46.cell? ⟨gb336, 4, none⟩ = some (.int .u64 a0_4) ∧ w46.cell? ⟨gb336, 5, none⟩ = some (.int .u64 a0_5) ∧ w46.cell? ⟨gb336, 6, none⟩ = some (.int .u64 a0_6) ∧ w46.cell? ⟨gb336, 7, none⟩ = some (.int .u64 a0_7) ∧ w46.cell? ⟨gb336, 8, none⟩ = some (.int .u64 a0_8) ∧ w46.cell? ⟨gb348, 0, none⟩ = some (.int .u32 t338) ∧ w46.cell? ⟨gb348, 1, none⟩ = some (.int .u32 t339) ∧ w46.cell? ⟨gb348, 2, none⟩ = some (.int .u64 t340) ∧ w46.cell? ⟨gb348, 3, none⟩ = some (.int .u64 t341) ∧ w46.cell? ⟨gb348, 4, none⟩ = some (.int .u64 t342) ∧ w46.cell? ⟨gb348, 5, none⟩ = some (.int .u64 t343) ∧ w46.cell? ⟨gb348, 6, none⟩ = some (.int .u64 t344) ∧ w46.cell? ⟨gb348, 7, none⟩ = some (.int .u64 t345) ∧ w46.cell? ⟨gb348, 8, none⟩ = some (.int .u64 t346) ∧ w46.cell? ⟨gb359, 0, none⟩ = some (.int .u32 t349) ∧ w46.cell? ⟨gb359, 1, none⟩ = some (.int .u32 t350) ∧ w46.cell? ⟨gb359, 2, none⟩ = some (.int .u64 t351) ∧ w46.cell? ⟨gb359, 3, none⟩ = some (.int .u64 t352) ∧ w46.cell? ⟨gb359, 4, none⟩ = some (.int .u64 t353) ∧ w46.cell? ⟨gb359, 5, none⟩ = some (.int .u64 t354) ∧ w46.cell? ⟨gb359, 6, none⟩ = some (.int .u64 t355) ∧ w46.cell? ⟨gb359, 7, none⟩ = some (.int .u64 t356) ∧ w46.cell? ⟨gb359, 8, none⟩ = some (.int .u64 t357) := hS_
    refine norm_ (a' := ?_) ?_ ?_
    rotate_left
    ·simp only [putAll, Act.put, List.setIfInBounds_toArray, List.set_cons_zero, List.set_cons_succ]
     rfl
    refine pure_ (i := 8) (N := some 29) (v := ?_) (a' := ?_) #[true, true, true, true, true, true, true, true, true, false, false, false, false, false, false, false, false, false, false, false, false] rfl rfl (any_of HT_.out (by kernel_rfl)) (fun _ _ _ h => h) (Or.inl ⟨by rfl, ?_⟩) ?_ ?_
    rotate_left
    ·intro w'
     go_simp
     with_reducible rfl
    rotate_left
    ·simp only [Act.put, List.setIfInBounds_toArray, List.set_cons_zero, List.set_cons_succ, i64_w, i32_w]
     rfl
    refine pure_ (i := 9) (N := some 30) (v := ?_) (a' := ?_) #[true, true, true, true, true, true, true, true, true, true, false, false, false, false, false, false, false, false, false, false, false] rfl rfl (any_of HT_.out (by kernel_rfl)) (fun _ _ _ h => h) (Or.inl ⟨by rfl, ?_⟩) ?_ ?_
    rotate_left
    ·intro w'
     go_simp
     with_reducible rfl
    rotate_left
    ·simp only [Act.put, List.setIfInBounds_toArray, List.set_cons_zero, List.set_cons_succ, i64_w, i32_w]
     rfl
    refine pure_ (i := 10) (N := some 31) (v := ?_) (a' := ?_) #[true, true, true, true, true, true, true, true, true, true, true, false, false, false, false, false, false, false, false, false, false] rfl rfl (any_of HT_.out (by kernel_rfl)) (fun _ _ _ h => h) (Or.inl ⟨by rfl, ?_⟩) ?_ ?_
    rotate_left
    ·intro w'
     go_simp
     with_reducible rfl
    rotate_left
    ·simp only [Act.put, List.setIfInBounds_toArray, List.set_cons_zero, List.set_cons_succ, i64_w, i32_w]
     rfl
    refine take_ (i := 11) (N := some 32) (v := ?_) (a' := ?_) #[true, true, true, true, true, true, true, true, true, true, true, true, false, false, false, false, false, false, false, false, false] rfl rfl (take_ofW HT_.out HW_.out (by kernel_rfl)) (fun _ _ _ h => h) (Or.inl ⟨by rfl, ?_⟩) hHeld ?_ ?_
    rotate_left
    ·rintro w' ⟨s0, s1, s2, s3, s4, s5, s6, s7, s8, s9, s10, s11, s12, s13, s14, s15, s16, s17, s18, s19, s20, s21, s22, s23, s24, s25, s26⟩
     go_simp
     with_reducible rfl
    rotate_left
    ·simp only [Act.put, List.setIfInBounds_toArray, List.set_cons_zero, List.set_cons_succ, i64_w, i32_w]
     rfl
    refine take_ (i := 12) (N := some 33) (v := ?_) (a' := ?_) #[true, true, true, true, true, true, true, true, true, true, true, true, true, false, false, false, false, false, false, false, false] rfl rfl (take_ofW HT_.out HW_.out (by kernel_rfl)) (fun _ _ _ h => h) (Or.inl ⟨by rfl, ?_⟩) hHeld ?_ ?_
    rotate_left
    ·rintro w' ⟨s0, s1, s2, s3, s4, s5, s6, s7, s8, s9, s10, s11, s12, s13, s14, s15, s16, s17, s18, s19, s20, s21, s22, s23, s24, s25, s26⟩
     go_simp
     with_reducible rfl
    rotate_left
    ·simp only [Act.put, List.setIfInBounds_toArray, List.set_cons_zero, List.set_cons_succ, i64_w, i32_w]
     rfl
    refine pure_ (i := 13) (N := some 34) (v := ?_) (a' := ?_) #[true, true, true, true, true, true, true, true, true, true, true, true, true, true, false, false, false, false, false, false, false] rfl rfl (any_of HT_.out (by kernel_rfl)) (fun _ _ _ h => h) (Or.inl ⟨by rfl, ?_⟩) ?_ ?_
    rotate_left
    ·intro w'
     go_simp
     with_reducible rfl
    rotate_left
    ·simp only [Act.put, List.setIfInBounds_toArray, List.set_cons_zero, List.set_cons_succ, i64_w, i32_w]
     rfl
    refine pure_ (i := 14) (N := some 35) (v := ?_) (a' := ?_) #[true, true, true, true, true, true, true, true, true, true, true, true, true, true, true, false, false, false, false, false, false] rfl rfl (any_of HT_.out (by kernel_rfl)) (fun _ _ _ h => h) (Or.inl ⟨by rfl, ?_⟩) ?_ ?_
    rotate_left
    ·intro w'
     go_simp
     with_reducible rfl
    rotate_left
    ·simp only [Act.put, List.setIfInBounds_toArray, List.set_cons_zero, List.set_cons_succ, i64_w, i32_w]
     rfl
    refine pure_ (i := 15) (N := some 36) (v := ?_) (a' := ?_) #[true, true, true, true, true, true, true, true, true, true, true, true, true, true, true, true, false, false, false, false, false] rfl rfl (any_of HT_.out (by kernel_rfl)) (fun _ _ _ h => h) (Or.inl ⟨by rfl, ?_⟩) ?_ ?_
    rotate_left
    ·intro w'
     go_simp
     with_reducible rfl
    rotate_left
    ·simp only [Act.put, List.setIfInBounds_toArray, List.set_cons_zero, List.set_cons_succ, i64_w, i32_w]
     rfl
    refine pure_ (i := 16) (N := some 37) (v := undef) (a' := ?_) #[true, true, true, true, true, true, true, true, true, true, true, true, true, true, true, true, true, false, false, false, false] rfl rfl (any_of HT_.out (by kernel_rfl)) (fun _ _ _ h => h) (Or.inr ⟨by rfl, rfl⟩) ?_ ?_
    rotate_left
    ·simp only [Act.put, List.setIfInBounds_toArray, List.set_cons_zero, List.set_cons_succ, i64_w, i32_w]
     rfl
    refine pure_ (i := 17) (N := some 38) (v := undef) (a' := ?_) #[true, true, true, true, true, true, true, true, true, true, true, true, true, true, true, true, true, true, false, false, false] rfl rfl (any_of HT_.out (by kernel_rfl)) (fun _ _ _ h => h) (Or.inr ⟨by rfl, rfl⟩) ?_ ?_
    rotate_left
    ·simp only [Act.put, List.setIfInBounds_toArray, List.set_cons_zero, List.set_cons_succ, i64_w, i32_w]
     rfl
    refine pure_ (i := 18) (N := some 39) (v := undef) (a' := ?_) #[true, true, true, true, true, true, true, true, true, true, true, true, true, true, true, true, true, true, true, false, false] rfl rfl (any_of HT_.out (by kernel_rfl)) (fun _ _ _ h => h) (Or.inr ⟨by rfl, rfl⟩) ?_ ?_
    rotate_left
    ·simp only [Act.put, List.setIfInBounds_toArray, List.set_cons_zero, List.set_cons_succ, i64_w, i32_w]
     rfl
    refine pure_ (i := 19) (N := some 40) (v := ?_) (a' := ?_) #[true, true, true, true, true, true, true, true, true, true, true, true, true, true, true, true, true, true, true, true, false] rfl rfl (any_of HT_.out (by kernel_rfl)) (fun _ _ _ h => h) (Or.inl ⟨by rfl, ?_⟩) ?_ ?_
    rotate_left
    ·intro w'
     go_simp
     with_reducible rfl
    rotate_left
    ·simp only [Act.put, List.setIfInBounds_toArray, List.set_cons_zero, List.set_cons_succ, i64_w, i32_w]
     rfl
    refine pure_ (i := 20) (N := some 4) (v := ?_) (a' := ?_) #[true, true, true, true, true, true, true, true, true, true, true, true, true, true, true, true, true, true, true, true, true] rfl rfl (any_of HT_.out (by kernel_rfl)) (fun _ _ _ h => h) (Or.inl ⟨by rfl, ?_⟩) ?_ ?_
    rotate_left
    ·intro w'
     go_simp
     with_reducible rfl
    rotate_left
    ·simp only [Act.put, List.setIfInBounds_toArray, List.set_cons_zero, List.set_cons_succ, i64_w, i32_w]
     rfl
    refine done_ (done_of HT_.out (by kernel_rfl)) ?_
    try go_wp2
    go_ret
    exact ⟨by first | rfl | (simp [errW_none, errW_some] <;> rfl) | (simp [*, errW_none, errW_some] <;> rfl), by repeat (first | (with_reducible first | exact HB.out | apply below_alloc | apply pw_below_drewN | apply below_drew1 | refine below_set ?_ GE336.out | refine below_set ?_ GE348.out | refine below_set ?_ GE359.out) | exact HB.out)⟩
  ·rw [if_neg c9] at H
   have c9b0 : ((strOfNums t360).toList == (strOfNums t363).toList) = false := beq_eq_false_iff_ne.mpr c9
   have c9b1 : ((strOfNums t360).toList != (strOfNums t363).toList) = true := bne_iff_ne.mpr c9
   obtain rfl := Option.some.inj H
   go_enter Try.func7, Try.ntmps7
   try go_wp2_with (first | ((with_reducible refine gate_dst (N := 2) rfl ?_); refine box_event ?hg (N := 2) ?hd (cs := #[.int .u32 a0_0, .int .u32 a0_1, .int .u64 a0_2, .int .u64 a0_3, .int .u64 a0_4, .int .u64 a0_5, .int .u64 a0_6, .int .u64 a0_7, .int .u64 a0_8]) (t := 26) ?hr ?_; (case hd => rfl); (case hg => rfl); (case hr => first | (go_simp; done) | (go_simp; rfl)); intro gb336 hg w47 hbox hb; have n0_ := Aside0.mk (below_step (by repeat (first | (with_reducible first | exact HB.out | apply below_alloc | apply pw_below_drewN | apply below_drew1) | exact HB.out)) hb); have n1_ := Aside0.mk (hbox); have n2_ := Aside0.mk ((by rw [hg]; exact (below_size (by repeat (first | (with_reducible first | exact HB.out | apply below_alloc | apply pw_below_drewN | apply below_drew1) | exact HB.out))) : w.heap.size ≤ gb336)); have n3_ := Aside0.mk ((by rw [hg]; exact (below_size (by repeat (first | (with_reducible first | exact HB.out | apply below_alloc | apply pw_below_drewN | apply below_drew1) | exact HB.out))) : w.heap.size ≤ gb336)); clear HB; have HB := n0_; have BK336 := n1_; have GW336 := n2_; have GE336 := n3_; clear n0_ n1_ n2_ n3_; clear hb hbox hg) | ((with_reducible refine gate_callee (f := 9) rfl ?_); refine goesL_ (some 10) rfl rfl Try.func9 (by kernel_rfl) rfl #[] rfl (by (try simp only [List.map_toArray, List.map_cons, List.map_nil]); first | done | rfl | (simp only [List.length_drop, List.length_take]; rfl)) ?_; (with_reducible refine (fairleadlaw04_awake.calls k  true _ A3.out).mono ?_); rintro e w48 ⟨rfl, hb⟩; refine ⟨_, rfl, ?_⟩; have n0_ := Aside0.mk (blk_below (g := gb336) (o := .cells #[.int .u32 a0_0, .int .u32 a0_1, .int .u64 a0_2, .int .u64 a0_3, .int .u64 a0_4, .int .u64 a0_5, .int .u64 a0_6, .int .u64 a0_7, .int .u64 a0_8] 26 (0, 0)) (by (with_reducible repeat (first | refine blk_drewN ?_ _ | refine blk_drew ?_ | refine blk_alloc ?_ _)); exact BK336.out) hb); have n1_ := Aside0.mk (below_step (by repeat (first | (with_reducible first | exact HB.out | apply below_alloc | apply pw_below_drewN | apply below_drew1 | refine below_set ?_ GE336.out) | exact HB.out)) hb); clear BK336; clear HB; have BK336 := n0_; have HB := n1_; clear n0_ n1_; (try clear hb); (try clear hb2); (try clear hk); (try clear hi)) | ((with_reducible refine gate_callee (f := 15) rfl ?_); refine goesL_ (some 13) rfl rfl Try.func15 (by kernel_rfl) rfl #[.slice A1 l1.length c1] rfl (by (try simp only [List.map_toArray, List.map_cons, List.map_nil]); first | done | rfl | (simp only [List.length_drop, List.length_take]; rfl)) ?_; (with_reducible refine (data_Of.calls k _ _ l1 t338 t339 t340 t341 t342 t343 t344 t345 t346 t347 _ ?side1 ?side2 A4.out).mono ?_); (case side1 => repeat (first | exact (Kd.C_below HR1.out HB.out) | (with_reducible refine Kd.C_alloc ?_ _) | (with_reducible refine Kd.C_drewN ?_ _) | (with_reducible refine Kd.C_drew ?_))); (case side2 => exact HC1.out); rintro e w49 ⟨rfl, hb⟩; refine ⟨_, rfl, ?_⟩; have n0_ := Aside0.mk (blk_below (g := gb336) (o := .cells #[.int .u32 a0_0, .int .u32 a0_1, .int .u64 a0_2, .int .u64 a0_3, .int .u64 a0_4, .int .u64 a0_5, .int .u64 a0_6, .int .u64 a0_7, .int .u64 a0_8] 26 (0, 0)) (by (with_reducible repeat (first | refine blk_drewN ?_ _ | refine blk_drew ?_ | refine blk_alloc ?_ _)); exact BK336.out) hb); have n1_ := Aside0.mk (below_step (by repeat (first | (with_reducible first | exact HB.out | apply below_alloc | apply pw_below_drewN | apply below_drew1 | refine below_set ?_ GE336.out) | exact HB.out)) hb); clear BK336; clear HB; have BK336 := n0_; have HB := n1_; clear n0_ n1_; (try clear hb); (try clear hb2); (try clear hk); (try clear hi)) | ((with_reducible refine gate_dst (N := 6) rfl ?_); refine box_event ?hg (N := 6) ?hd (cs := #[.int .u32 0, .int .u32 0, .int .u64 0, .int .u64 0, .int .u64 0, .int .u64 0, .int .u64 0, .int .u64 0, .int .u64 0]) (t := 26) ?hr ?_; (case hd => rfl); (case hg => rfl); (case hr => first | (go_simp; done) | (go_simp; rfl)); intro gb348 hg w50 hbox hb; have n0_ := Aside0.mk (blk_below (g := gb336) (o := .cells #[.int .u32 a0_0, .int .u32 a0_1, .int .u64 a0_2, .int .u64 a0_3, .int .u64 a0_4, .int .u64 a0_5, .int .u64 a0_6, .int .u64 a0_7, .int .u64 a0_8] 26 (0, 0)) (by (with_reducible repeat (first | refine blk_drewN ?_ _ | refine blk_drew ?_ | refine blk_alloc ?_ _)); exact BK336.out) hb); have n1_ := Aside0.mk (below_step (by repeat (first | (with_reducible first | exact HB.out | apply below_alloc | apply pw_below_drewN | apply below_drew1 | refine below_set ?_ GE336.out) | exact HB.out)) hb); have n2_ := Aside0.mk (hbox); have n3_ := Aside0.mk ((by rw [hg]; exact (below_size (by repeat (first | (with_reducible first | exact HB.out | apply below_alloc | apply pw_below_drewN | apply below_drew1 | refine below_set ?_ GE336.out) | exact HB.out))) : w.heap.size ≤ gb348)); have n4_ := Aside0.mk ((by rw [hg]; exact (below_size (by repeat (first | (with_reducible first | exact HB.out | apply below_alloc | apply pw_below_drewN | apply below_drew1 | refine below_set ?_ GE336.out) | exact HB.out))) : w.heap.size ≤ gb348)); have n5_ := Aside0.mk ((by rw [hg]; exact Nat.ne_of_lt (blk_lt (g := gb336) (o := .cells #[.int .u32 a0_0, .int .u32 a0_1, .int .u64 a0_2, .int .u64 a0_3, .int .u64 a0_4, .int .u64 a0_5, .int .u64 a0_6, .int .u64 a0_7, .int .u64 a0_8] 26 (0, 0)) (by (with_reducible repeat (first | refine blk_drewN ?_ _ | refine blk_drew ?_ | refine blk_alloc ?_ _)); exact BK336.out)) : gb336 ≠ gb348)); have n6_ := Aside0.mk ((by rw [hg]; exact Nat.ne_of_gt (blk_lt (g := gb336) (o := .cells #[.int .u32 a0_0, .int .u32 a0_1, .int .u64 a0_2, .int .u64 a0_3, .int .u64 a0_4, .int .u64 a0_5, .int .u64 a0_6, .int .u64 a0_7, .int .u64 a0_8] 26 (0, 0)) (by (with_reducible repeat (first | refine blk_drewN ?_ _ | refine blk_drew ?_ | refine blk_alloc ?_ _)); exact BK336.out)) : gb348 ≠ gb336)); clear BK336; clear HB; have BK336 := n0_; have HB := n1_; have BK348 := n2_; have GW348 := n3_; have GE348 := n4_; have NB336_348 := n5_; have NB348_336 := n6_; clear n0_ n1_ n2_ n3_ n4_ n5_ n6_; clear hb hbox hg; have hnb51 := NB348_336.out; have hnc51 := NB336_348.out; have hcz52_0 : w50.cell? ⟨gb348, 0, none⟩ = some (.int .u32 0) := (blk_cell BK348.out 0).trans rfl; have hcz52_1 : w50.cell? ⟨gb348, 1, none⟩ = some (.int .u32 0) := (blk_cell BK348.out 1).trans rfl; have hcz52_2 : w50.cell? ⟨gb348, 2, none⟩ = some (.int .u64 0) := (blk_cell BK348.out 2).trans rfl; have hcz52_3 : w50.cell? ⟨gb348, 3, none⟩ = some (.int .u64 0) := (blk_cell BK348.out 3).trans rfl; have hcz52_4 : w50.cell? ⟨gb348, 4, none⟩ = some (.int .u64 0) := (blk_cell BK348.out 4).trans rfl; have hcz52_5 : w50.cell? ⟨gb348, 5, none⟩ = some (.int .u64 0) := (blk_cell BK348.out 5).trans rfl; have hcz52_6 : w50.cell? ⟨gb348, 6, none⟩ = some (.int .u64 0) := (blk_cell BK348.out 6).trans rfl; have hcz52_7 : w50.cell? ⟨gb348, 7, none⟩ = some (.int .u64 0) := (blk_cell BK348.out 7).trans rfl; have hcz52_8 : w50.cell? ⟨gb348, 8, none⟩ = some (.int .u64 0) := (blk_cell BK348.out 8).trans rfl; have hfz52_0 := blk_frozen BK348.out 0; have hfz52_1 := blk_frozen BK348.out 1; have hfz52_2 := blk_frozen BK348.out 2; have hfz52_3 := blk_frozen BK348.out 3; have hfz52_4 := blk_frozen BK348.out 4; have hfz52_5 := blk_frozen BK348.out 5; have hfz52_6 := blk_frozen BK348.out 6; have hfz52_7 := blk_frozen BK348.out 7; have hfz52_8 := blk_frozen BK348.out 8) | ((with_reducible refine gate_callee (f := 16) rfl ?_); refine goesL_ (some 18) rfl rfl Try.func16 (by kernel_rfl) rfl #[.slice A1 l1.length c1] rfl (by (try simp only [List.map_toArray, List.map_cons, List.map_nil]); first | done | rfl | (simp only [List.length_drop, List.length_take]; rfl)) ?_; (with_reducible refine (fairleadref04_Of.calls k _ _ l1 t349 t350 t351 t352 t353 t354 t355 t356 t357 t358 _ ?side1 ?side2 A5.out).mono ?_); (case side1 => exact Kd.C_below HR1.out (by repeat (first | (with_reducible first | exact HB.out | apply below_alloc | apply pw_below_drewN | apply below_drew1 | refine below_set ?_ GE336.out | refine below_set ?_ GE348.out) | exact HB.out))); (case side2 => exact HC1.out); rintro e w53 ⟨rfl, hb⟩; refine ⟨_, rfl, ?_⟩; have n0_ := Aside0.mk (blk_below (g := gb336) (o := .cells #[.int .u32 a0_0, .int .u32 a0_1, .int .u64 a0_2, .int .u64 a0_3, .int .u64 a0_4, .int .u64 a0_5, .int .u64 a0_6, .int .u64 a0_7, .int .u64 a0_8] 26 (0, 0)) (by (with_reducible repeat (first | refine blk_drewN ?_ _ | refine blk_drew ?_ | refine blk_alloc ?_ _)); refine blk_far ?_ NB336_348.out _; (with_reducible repeat (first | refine blk_drewN ?_ _ | refine blk_drew ?_ | refine blk_alloc ?_ _)); refine blk_far ?_ NB336_348.out _; (with_reducible repeat (first | refine blk_drewN ?_ _ | refine blk_drew ?_ | refine blk_alloc ?_ _)); refine blk_far ?_ NB336_348.out _; (with_reducible repeat (first | refine blk_drewN ?_ _ | refine blk_drew ?_ | refine blk_alloc ?_ _)); refine blk_far ?_ NB336_348.out _; (with_reducible repeat (first | refine blk_drewN ?_ _ | refine blk_drew ?_ | refine blk_alloc ?_ _)); refine blk_far ?_ NB336_348.out _; (with_reducible repeat (first | refine blk_drewN ?_ _ | refine blk_drew ?_ | refine blk_alloc ?_ _)); refine blk_far ?_ NB336_348.out _; (with_reducible repeat (first | refine blk_drewN ?_ _ | refine blk_drew ?_ | refine blk_alloc ?_ _)); refine blk_far ?_ NB336_348.out _; (with_reducible repeat (first | refine blk_drewN ?_ _ | refine blk_drew ?_ | refine blk_alloc ?_ _)); refine blk_far ?_ NB336_348.out _; (with_reducible repeat (first | refine blk_drewN ?_ _ | refine blk_drew ?_ | refine blk_alloc ?_ _)); refine blk_far ?_ NB336_348.out _; (with_reducible repeat (first | refine blk_drewN ?_ _ | refine blk_drew ?_ | refine blk_alloc ?_ _)); exact BK336.out) hb); have n1_ := Aside0.mk (blk_below (g := gb348) (o := .cells #[.int .u32 t338, .int .u32 t339, .int .u64 t340, .int .u64 t341, .int .u64 t342, .int .u64 t343, .int .u64 t344, .int .u64 t345, .int .u64 t346] 26 (0, 0)) (by (with_reducible repeat (first | refine blk_drewN ?_ _ | refine blk_drew ?_ | refine blk_alloc ?_ _)); refine blk_put (cs := #[.int .u32 t338, .int .u32 t339, .int .u64 t340, .int .u64 t341, .int .u64 t342, .int .u64 t343, .int .u64 t344, .int .u64 t345, .int .u64 0]) ?_ 8 _ rfl; (with_reducible repeat (first | refine blk_drewN ?_ _ | refine blk_drew ?_ | refine blk_alloc ?_ _)); refine blk_put (cs := #[.int .u32 t338, .int .u32 t339, .int .u64 t340, .int .u64 t341, .int .u64 t342, .int .u64 t343, .int .u64 t344, .int .u64 0, .int .u64 0]) ?_ 7 _ rfl; (with_reducible repeat (first | refine blk_drewN ?_ _ | refine blk_drew ?_ | refine blk_alloc ?_ _)); refine blk_put (cs := #[.int .u32 t338, .int .u32 t339, .int .u64 t340, .int .u64 t341, .int .u64 t342, .int .u64 t343, .int .u64 0, .int .u64 0, .int .u64 0]) ?_ 6 _ rfl; (with_reducible repeat (first | refine blk_drewN ?_ _ | refine blk_drew ?_ | refine blk_alloc ?_ _)); refine blk_put (cs := #[.int .u32 t338, .int .u32 t339, .int .u64 t340, .int .u64 t341, .int .u64 t342, .int .u64 0, .int .u64 0, .int .u64 0, .int .u64 0]) ?_ 5 _ rfl; (with_reducible repeat (first | refine blk_drewN ?_ _ | refine blk_drew ?_ | refine blk_alloc ?_ _)); refine blk_put (cs := #[.int .u32 t338, .int .u32 t339, .int .u64 t340, .int .u64 t341, .int .u64 0, .int .u64 0, .int .u64 0, .int .u64 0, .int .u64 0]) ?_ 4 _ rfl; (with_reducible repeat (first | refine blk_drewN ?_ _ | refine blk_drew ?_ | refine blk_alloc ?_ _)); refine blk_put (cs := #[.int .u32 t338, .int .u32 t339, .int .u64 t340, .int .u64 0, .int .u64 0, .int .u64 0, .int .u64 0, .int .u64 0, .int .u64 0]) ?_ 3 _ rfl; (with_reducible repeat (first | refine blk_drewN ?_ _ | refine blk_drew ?_ | refine blk_alloc ?_ _)); refine blk_put (cs := #[.int .u32 t338, .int .u32 t339, .int .u64 0, .int .u64 0, .int .u64 0, .int .u64 0, .int .u64 0, .int .u64 0, .int .u64 0]) ?_ 2 _ rfl; (with_reducible repeat (first | refine blk_drewN ?_ _ | refine blk_drew ?_ | refine blk_alloc ?_ _)); refine blk_put (cs := #[.int .u32 t338, .int .u32 0, .int .u64 0, .int .u64 0, .int .u64 0, .int .u64 0, .int .u64 0, .int .u64 0, .int .u64 0]) ?_ 1 _ rfl; (with_reducible repeat (first | refine blk_drewN ?_ _ | refine blk_drew ?_ | refine blk_alloc ?_ _)); refine blk_put (cs := #[.int .u32 0, .int .u32 0, .int .u64 0, .int .u64 0, .int .u64 0, .int .u64 0, .int .u64 0, .int .u64 0, .int .u64 0]) ?_ 0 _ rfl; (with_reducible repeat (first | refine blk_drewN ?_ _ | refine blk_drew ?_ | refine blk_alloc ?_ _)); exact BK348.out) hb); have n2_ := Aside0.mk (below_step (by repeat (first | (with_reducible first | exact HB.out | apply below_alloc | apply pw_below_drewN | apply below_drew1 | refine below_set ?_ GE336.out | refine below_set ?_ GE348.out) | exact HB.out)) hb); clear BK336; clear BK348; clear HB; have BK336 := n0_; have BK348 := n1_; have HB := n2_; clear n0_ n1_ n2_; (try clear hb); (try clear hb2); (try clear hk); (try clear hi)) | ((with_reducible refine gate_dst (N := 8) rfl ?_); refine box_event ?hg (N := 8) ?hd (cs := #[.int .u32 0, .int .u32 0, .int .u64 0, .int .u64 0, .int .u64 0, .int .u64 0, .int .u64 0, .int .u64 0, .int .u64 0]) (t := 26) ?hr ?_; (case hd => rfl); (case hg => rfl); (case hr => first | (go_simp; done) | (go_simp; rfl)); intro gb359 hg w54 hbox hb; have n0_ := Aside0.mk (blk_below (g := gb336) (o := .cells #[.int .u32 a0_0, .int .u32 a0_1, .int .u64 a0_2, .int .u64 a0_3, .int .u64 a0_4, .int .u64 a0_5, .int .u64 a0_6, .int .u64 a0_7, .int .u64 a0_8] 26 (0, 0)) (by (with_reducible repeat (first | refine blk_drewN ?_ _ | refine blk_drew ?_ | refine blk_alloc ?_ _)); exact BK336.out) hb); have n1_ := Aside0.mk (blk_below (g := gb348) (o := .cells #[.int .u32 t338, .int .u32 t339, .int .u64 t340, .int .u64 t341, .int .u64 t342, .int .u64 t343, .int .u64 t344, .int .u64 t345, .int .u64 t346] 26 (0, 0)) (by (with_reducible repeat (first | refine blk_drewN ?_ _ | refine blk_drew ?_ | refine blk_alloc ?_ _)); exact BK348.out) hb); have n2_ := Aside0.mk (below_step (by repeat (first | (with_reducible first | exact HB.out | apply below_alloc | apply pw_below_drewN | apply below_drew1 | refine below_set ?_ GE336.out | refine below_set ?_ GE348.out) | exact HB.out)) hb); have n3_ := Aside0.mk (hbox); have n4_ := Aside0.mk ((by rw [hg]; exact (below_size (by repeat (first | (with_reducible first | exact HB.out | apply below_alloc | apply pw_below_drewN | apply below_drew1 | refine below_set ?_ GE336.out | refine below_set ?_ GE348.out) | exact HB.out))) : w.heap.size ≤ gb359)); have n5_ := Aside0.mk ((by rw [hg]; exact (below_size (by repeat (first | (with_reducible first | exact HB.out | apply below_alloc | apply pw_below_drewN | apply below_drew1 | refine below_set ?_ GE336.out | refine below_set ?_ GE348.out) | exact HB.out))) : w.heap.size ≤ gb359)); have n6_ := Aside0.mk ((by rw [hg]; exact Nat.ne_of_lt (blk_lt (g := gb336) (o := .cells #[.int .u32 a0_0, .int .u32 a0_1, .int .u64 a0_2, .int .u64 a0_3, .int .u64 a0_4, .int .u64 a0_5, .int .u64 a0_6, .int .u64 a0_7, .int .u64 a0_8] 26 (0, 0)) (by (with_reducible repeat (first | refine blk_drewN ?_ _ | refine blk_drew ?_ | refine blk_alloc ?_ _)); exact BK336.out)) : gb336 ≠ gb359)); have n7_ := Aside0.mk ((by rw [hg]; exact Nat.ne_of_gt (blk_lt (g := gb336) (o := .cells #[.int .u32 a0_0, .int .u32 a0_1, .int .u64 a0_2, .int .u64 a0_3, .int .u64 a0_4, .int .u64 a0_5, .int .u64 a0_6, .int .u64 a0_7, .int .u64 a0_8] 26 (0, 0)) (by (with_reducible repeat (first | refine blk_drewN ?_ _ | refine blk_drew ?_ | refine blk_alloc ?_ _)); exact BK336.out)) : gb359 ≠ gb336)); have n8_ := Aside0.mk ((by rw [hg]; exact Nat.ne_of_lt (blk_lt (g := gb348) (o := .cells #[.int .u32 t338, .int .u32 t339, .int .u64 t340, .int .u64 t341, .int .u64 t342, .int .u64 t343, .int .u64 t344, .int .u64 t345, .int .u64 t346] 26 (0, 0)) (by (with_reducible repeat (first | refine blk_drewN ?_ _ | refine blk_drew ?_ | refine blk_alloc ?_ _)); exact BK348.out)) : gb348 ≠ gb359)); have n9_ := Aside0.mk ((by rw [hg]; exact Nat.ne_of_gt (blk_lt (g := gb348) (o := .cells #[.int .u32 t338, .int .u32 t339, .int .u64 t340, .int .u64 t341, .int .u64 t342, .int .u64 t343, .int .u64 t344, .int .u64 t345, .int .u64 t346] 26 (0, 0)) (by (with_reducible repeat (first | refine blk_drewN ?_ _ | refine blk_drew ?_ | refine blk_alloc ?_ _)); exact BK348.out)) : gb359 ≠ gb348)); clear BK336; clear BK348; clear HB; have BK336 := n0_; have BK348 := n1_; have HB := n2_; have BK359 := n3_; have GW359 := n4_; have GE359 := n5_; have NB336_359 := n6_; have NB359_336 := n7_; have NB348_359 := n8_; have NB359_348 := n9_; clear n0_ n1_ n2_ n3_ n4_ n5_ n6_ n7_ n8_ n9_; clear hb hbox hg; have hnb55 := NB359_336.out; have hnc55 := NB336_359.out; have hnb56 := NB359_348.out; have hnc56 := NB348_359.out; have hcz57_0 : w54.cell? ⟨gb359, 0, none⟩ = some (.int .u32 0) := (blk_cell BK359.out 0).trans rfl; have hcz57_1 : w54.cell? ⟨gb359, 1, none⟩ = some (.int .u32 0) := (blk_cell BK359.out 1).trans rfl; have hcz57_2 : w54.cell? ⟨gb359, 2, none⟩ = some (.int .u64 0) := (blk_cell BK359.out 2).trans rfl; have hcz57_3 : w54.cell? ⟨gb359, 3, none⟩ = some (.int .u64 0) := (blk_cell BK359.out 3).trans rfl; have hcz57_4 : w54.cell? ⟨gb359, 4, none⟩ = some (.int .u64 0) := (blk_cell BK359.out 4).trans rfl; have hcz57_5 : w54.cell? ⟨gb359, 5, none⟩ = some (.int .u64 0) := (blk_cell BK359.out 5).trans rfl; have hcz57_6 : w54.cell? ⟨gb359, 6, none⟩ = some (.int .u64 0) := (blk_cell BK359.out 6).trans rfl; have hcz57_7 : w54.cell? ⟨gb359, 7, none⟩ = some (.int .u64 0) := (blk_cell BK359.out 7).trans rfl; have hcz57_8 : w54.cell? ⟨gb359, 8, none⟩ = some (.int .u64 0) := (blk_cell BK359.out 8).trans rfl; have hfz57_0 := blk_frozen BK359.out 0; have hfz57_1 := blk_frozen BK359.out 1; have hfz57_2 := blk_frozen BK359.out 2; have hfz57_3 := blk_frozen BK359.out 3; have hfz57_4 := blk_frozen BK359.out 4; have hfz57_5 := blk_frozen BK359.out 5; have hfz57_6 := blk_frozen BK359.out 6; have hfz57_7 := blk_frozen BK359.out 7; have hfz57_8 := blk_frozen BK359.out 8))
   have n0_ : Aside0 ((((((((((w54.setCell ⟨gb359, 0, none⟩ (.int .u32 t349)).setCell ⟨gb359, 1, none⟩ (.int .u32 t350)).setCell ⟨gb359, 2, none⟩ (.int .u64 t351)).setCell ⟨gb359, 3, none⟩ (.int .u64 t352)).setCell ⟨gb359, 4, none⟩ (.int .u64 t353)).setCell ⟨gb359, 5, none⟩ (.int .u64 t354)).setCell ⟨gb359, 6, none⟩ (.int .u64 t355)).setCell ⟨gb359, 7, none⟩ (.int .u64 t356)).setCell ⟨gb359, 8, none⟩ (.int .u64 t357)).heap[gb336]? = some (.cells #[.int .u32 a0_0, .int .u32 a0_1, .int .u64 a0_2, .int .u64 a0_3, .int .u64 a0_4, .int .u64 a0_5, .int .u64 a0_6, .int .u64 a0_7, .int .u64 a0_8] 26 (0, 0))) := ⟨by (with_reducible repeat (first | refine blk_drewN ?_ _ | refine blk_drew ?_ | refine blk_alloc ?_ _)); refine blk_far ?_ NB336_359.out _; (with_reducible repeat (first | refine blk_drewN ?_ _ | refine blk_drew ?_ | refine blk_alloc ?_ _)); refine blk_far ?_ NB336_359.out _; (with_reducible repeat (first | refine blk_drewN ?_ _ | refine blk_drew ?_ | refine blk_alloc ?_ _)); refine blk_far ?_ NB336_359.out _; (with_reducible repeat (first | refine blk_drewN ?_ _ | refine blk_drew ?_ | refine blk_alloc ?_ _)); refine blk_far ?_ NB336_359.out _; (with_reducible repeat (first | refine blk_drewN ?_ _ | refine blk_drew ?_ | refine blk_alloc ?_ _)); refine blk_far ?_ NB336_359.out _; (with_reducible repeat (first | refine blk_drewN ?_ _ | refine blk_drew ?_ | refine blk_alloc ?_ _)); refine blk_far ?_ NB336_359.out _; (with_reducible repeat (first | refine blk_drewN ?_ _ | refine blk_drew ?_ | refine blk_alloc ?_ _)); refine blk_far ?_ NB336_359.out _; (with_reducible repeat (first | refine blk_drewN ?_ _ | refine blk_drew ?_ | refine blk_alloc ?_ _)); refine blk_far ?_ NB336_359.out _; (with_reducible repeat (first | refine blk_drewN ?_ _ | refine blk_drew ?_ | refine blk_alloc ?_ _)); refine blk_far ?_ NB336_359.out _; (with_reducible repeat (first | refine blk_drewN ?_ _ | refine blk_drew ?_ | refine blk_alloc ?_ _)); exact BK336.out⟩
   have n1_ : Aside0 ((((((((((w54.setCell ⟨gb359, 0, none⟩ (.int .u32 t349)).setCell ⟨gb359, 1, none⟩ (.int .u32 t350)).setCell ⟨gb359, 2, none⟩ (.int .u64 t351)).setCell ⟨gb359, 3, none⟩ (.int .u64 t352)).setCell ⟨gb359, 4, none⟩ (.int .u64 t353)).setCell ⟨gb359, 5, none⟩ (.int .u64 t354)).setCell ⟨gb359, 6, none⟩ (.int .u64 t355)).setCell ⟨gb359, 7, none⟩ (.int .u64 t356)).setCell ⟨gb359, 8, none⟩ (.int .u64 t357)).heap[gb348]? = some (.cells #[.int .u32 t338, .int .u32 t339, .int .u64 t340, .int .u64 t341, .int .u64 t342, .int .u64 t343, .int .u64 t344, .int .u64 t345, .int .u64 t346] 26 (0, 0))) := ⟨by (with_reducible repeat (first | refine blk_drewN ?_ _ | refine blk_drew ?_ | refine blk_alloc ?_ _)); refine blk_far ?_ NB348_359.out _; (with_reducible repeat (first | refine blk_drewN ?_ _ | refine blk_drew ?_ | refine blk_alloc ?_ _)); refine blk_far ?_ NB348_359.out _; (with_reducible repeat (first | refine blk_drewN ?_ _ | refine blk_drew ?_ | refine blk_alloc ?_ _)); refine blk_far ?_ NB348_359.out _; (with_reducible repeat (first | refine blk_drewN ?_ _ | refine blk_drew ?_ | refine blk_alloc ?_ _)); refine blk_far ?_ NB348_359.out _; (with_reducible repeat (first | refine blk_drewN ?_ _ | refine blk_drew ?_ | refine blk_alloc ?_ _)); refine blk_far ?_ NB348_359.out _; (with_reducible repeat (first | refine blk_drewN ?_ _ | refine blk_drew ?_ | refine blk_alloc ?_ _)); refine blk_far ?_ NB348_359.out _; (with_reducible repeat (first | refine blk_drewN ?_ _ | refine blk_drew ?_ | refine blk_alloc ?_ _)); refine blk_far ?_ NB348_359.out _; (with_reducible repeat (first | refine blk_drewN ?_ _ | refine blk_drew ?_ | refine blk_alloc ?_ _)); refine blk_far ?_ NB348_359.out _; (with_reducible repeat (first | refine blk_drewN ?_ _ | refine blk_drew ?_ | refine blk_alloc ?_ _)); refine blk_far ?_ NB348_359.out _; (with_reducible repeat (first | refine blk_drewN ?_ _ | refine blk_drew ?_ | refine blk_alloc ?_ _)); exact BK348.out⟩
   have n2_ : Aside0 ((((((((((w54.setCell ⟨gb359, 0, none⟩ (.int .u32 t349)).setCell ⟨gb359, 1, none⟩ (.int .u32 t350)).setCell ⟨gb359, 2, none⟩ (.int .u64 t351)).setCell ⟨gb359, 3, none⟩ (.int .u64 t352)).setCell ⟨gb359, 4, none⟩ (.int .u64 t353)).setCell ⟨gb359, 5, none⟩ (.int .u64 t354)).setCell ⟨gb359, 6, none⟩ (.int .u64 t355)).setCell ⟨gb359, 7, none⟩ (.int .u64 t356)).setCell ⟨gb359, 8, none⟩ (.int .u64 t357)).heap[gb359]? = some (.cells #[.int .u32 t349, .int .u32 t350, .int .u64 t351, .int .u64 t352, .int .u64 t353, .int .u64 t354, .int .u64 t355, .int .u64 t356, .int .u64 t357] 26 (0, 0))) := ⟨by (with_reducible repeat (first | refine blk_drewN ?_ _ | refine blk_drew ?_ | refine blk_alloc ?_ _)); refine blk_put (cs := #[.int .u32 t349, .int .u32 t350, .int .u64 t351, .int .u64 t352, .int .u64 t353, .int .u64 t354, .int .u64 t355, .int .u64 t356, .int .u64 0]) ?_ 8 _ rfl; (with_reducible repeat (first | refine blk_drewN ?_ _ | refine blk_drew ?_ | refine blk_alloc ?_ _)); refine blk_put (cs := #[.int .u32 t349, .int .u32 t350, .int .u64 t351, .int .u64 t352, .int .u64 t353, .int .u64 t354, .int .u64 t355, .int .u64 0, .int .u64 0]) ?_ 7 _ rfl; (with_reducible repeat (first | refine blk_drewN ?_ _ | refine blk_drew ?_ | refine blk_alloc ?_ _)); refine blk_put (cs := #[.int .u32 t349, .int .u32 t350, .int .u64 t351, .int .u64 t352, .int .u64 t353, .int .u64 t354, .int .u64 0, .int .u64 0, .int .u64 0]) ?_ 6 _ rfl; (with_reducible repeat (first | refine blk_drewN ?_ _ | refine blk_drew ?_ | refine blk_alloc ?_ _)); refine blk_put (cs := #[.int .u32 t349, .int .u32 t350, .int .u64 t351, .int .u64 t352, .int .u64 t353, .int .u64 0, .int .u64 0, .int .u64 0, .int .u64 0]) ?_ 5 _ rfl; (with_reducible repeat (first | refine blk_drewN ?_ _ | refine blk_drew ?_ | refine blk_alloc ?_ _)); refine blk_put (cs := #[.int .u32 t349, .int .u32 t350, .int .u64 t351, .int .u64 t352, .int .u64 0, .int .u64 0, .int .u64 0, .int .u64 0, .int .u64 0]) ?_ 4 _ rfl; (with_reducible repeat (first | refine blk_drewN ?_ _ | refine blk_drew ?_ | refine blk_alloc ?_ _)); refine blk_put (cs := #[.int .u32 t349, .int .u32 t350, .int .u64 t351, .int .u64 0, .int .u64 0, .int .u64 0, .int .u64 0, .int .u64 0, .int .u64 0]) ?_ 3 _ rfl; (with_reducible repeat (first | refine blk_drewN ?_ _ | refine blk_drew ?_ | refine blk_alloc ?_ _)); refine blk_put (cs := #[.int .u32 t349, .int .u32 t350, .int .u64 0, .int .u64 0, .int .u64 0, .int .u64 0, .int .u64 0, .int .u64 0, .int .u64 0]) ?_ 2 _ rfl; (with_reducible repeat (first | refine blk_drewN ?_ _ | refine blk_drew ?_ | refine blk_alloc ?_ _)); refine blk_put (cs := #[.int .u32 t349, .int .u32 0, .int .u64 0, .int .u64 0, .int .u64 0, .int .u64 0, .int .u64 0, .int .u64 0, .int .u64 0]) ?_ 1 _ rfl; (with_reducible repeat (first | refine blk_drewN ?_ _ | refine blk_drew ?_ | refine blk_alloc ?_ _)); refine blk_put (cs := #[.int .u32 0, .int .u32 0, .int .u64 0, .int .u64 0, .int .u64 0, .int .u64 0, .int .u64 0, .int .u64 0, .int .u64 0]) ?_ 0 _ rfl; (with_reducible repeat (first | refine blk_drewN ?_ _ | refine blk_drew ?_ | refine blk_alloc ?_ _)); exact BK359.out⟩
   have n3_ : Aside0 (Below w.heap.size w (((((((((w54.setCell ⟨gb359, 0, none⟩ (.int .u32 t349)).setCell ⟨gb359, 1, none⟩ (.int .u32 t350)).setCell ⟨gb359, 2, none⟩ (.int .u64 t351)).setCell ⟨gb359, 3, none⟩ (.int .u64 t352)).setCell ⟨gb359, 4, none⟩ (.int .u64 t353)).setCell ⟨gb359, 5, none⟩ (.int .u64 t354)).setCell ⟨gb359, 6, none⟩ (.int .u64 t355)).setCell ⟨gb359, 7, none⟩ (.int .u64 t356)).setCell ⟨gb359, 8, none⟩ (.int .u64 t357))) := ⟨by repeat (first | (with_reducible first | exact HB.out | apply below_alloc | apply pw_below_drewN | apply below_drew1 | refine below_set ?_ GE336.out | refine below_set ?_ GE348.out | refine below_set ?_ GE359.out) | exact HB.out)⟩
   (try clear BK336)
   (try clear BK348)
   (try clear BK359)
   (try clear HB)
   generalize (((((((((w54.setCell ⟨gb359, 0, none⟩ (.int .u32 t349)).setCell ⟨gb359, 1, none⟩ (.int .u32 t350)).setCell ⟨gb359, 2, none⟩ (.int .u64 t351)).setCell ⟨gb359, 3, none⟩ (.int .u64 t352)).setCell ⟨gb359, 4, none⟩ (.int .u64 t353)).setCell ⟨gb359, 5, none⟩ (.int .u64 t354)).setCell ⟨gb359, 6, none⟩ (.int .u64 t355)).setCell ⟨gb359, 7, none⟩ (.int .u64 t356)).setCell ⟨gb359, 8, none⟩ (.int .u64 t357)) = w58 at n0_ n1_ n2_ n3_ ⊢
   have BK336 := n0_
   have BK348 := n1_
   have BK359 := n2_
   have HB := n3_
   clear n0_ n1_ n2_ n3_
   have n0_ := Aside0.mk (blk_drew BK336.out)
   have n1_ := Aside0.mk (blk_drew BK348.out)
   have n2_ := Aside0.mk (blk_drew BK359.out)
   have n3_ := Aside0.mk (below_drew1 HB.out)
   clear BK336
   clear BK348
   clear BK359
   clear HB
   have BK336 := n0_
   have BK348 := n1_
   have BK359 := n2_
   have HB := n3_
   clear n0_ n1_ n2_ n3_
   refine start_ (n := 21) (S := fun w' => w'.cell? ⟨gb336, 0, none⟩ = some (.int .u32 a0_0) ∧ w'.cell? ⟨gb336, 1, none⟩ = some (.int .u32 a0_1) ∧ w'.cell? ⟨gb336, 2, none⟩ = some (.int .u64 a0_2) ∧ w'.cell? ⟨gb336, 3, none⟩ = some (.int .u64 a0_3) ∧ w'.cell? ⟨gb336, 4, none⟩ = some (.int .u64 a0_4) ∧ w'.cell? ⟨gb336, 5, none⟩ = some (.int .u64 a0_5) ∧ w'.cell? ⟨gb336, 6, none⟩ = some (.int .u64 a0_6) ∧ w'.cell? ⟨gb336, 7, none⟩ = some (.int .u64 a0_7) ∧ w'.cell? ⟨gb336, 8, none⟩ = some (.int .u64 a0_8)) (ds := []) #[false, false, false, false, false, false, false, false, false, false, false, false, false, false, false, false, false, false, false, false, false] (by kernel_rfl) rfl rfl ⟨(blk_cell BK336.out 0).trans rfl, (blk_cell BK336.out 1).trans rfl, (blk_cell BK336.out 2).trans rfl, (blk_cell BK336.out 3).trans rfl, (blk_cell BK336.out 4).trans rfl, (blk_cell BK336.out 5).trans rfl, (blk_cell BK336.out 6).trans rfl, (blk_cell BK336.out 7).trans rfl, (blk_cell BK336.out 8).trans rfl⟩ (fun hHeld => ?_); refine with_tabW fairleadlaw04_DataBytes.tab4 fairleadlaw04_DataBytes.bits4 (fun HT_ HW_ => ?_)
   generalize w58.drew = w59 at BK336 BK348 BK359 HB hHeld ⊢
   refine pure_ (i := 0) (N := some 21) (v := ?_) (a' := ?_) #[true, false, false, false, false, false, false, false, false, false, false, false, false, false, false, false, false, false, false, false, false] rfl rfl (any_of HT_.out (by kernel_rfl)) (fun _ _ _ h => h) (Or.inl ⟨by rfl, ?_⟩) ?_ ?_
   rotate_left
   ·intro w'
    go_simp
    with_reducible rfl
   rotate_left
   ·simp only [Act.put, List.setIfInBounds_toArray, List.set_cons_zero, List.set_cons_succ, i64_w, i32_w]
    rfl
   refine pure_ (i := 1) (N := some 22) (v := ?_) (a' := ?_) #[true, true, false, false, false, false, false, false, false, false, false, false, false, false, false, false, false, false, false, false, false] rfl rfl (any_of HT_.out (by kernel_rfl)) (fun _ _ _ h => h) (Or.inl ⟨by rfl, ?_⟩) ?_ ?_
   rotate_left
   ·intro w'
    go_simp
    with_reducible rfl
   rotate_left
   ·simp only [Act.put, List.setIfInBounds_toArray, List.set_cons_zero, List.set_cons_succ, i64_w, i32_w]
    rfl
   refine take_ (i := 2) (N := some 23) (v := ?_) (a' := ?_) #[true, true, true, false, false, false, false, false, false, false, false, false, false, false, false, false, false, false, false, false, false] rfl rfl (take_ofW HT_.out HW_.out (by kernel_rfl)) (fun _ _ _ h => h) (Or.inl ⟨by rfl, ?_⟩) hHeld ?_ ?_
   rotate_left
   ·rintro w' ⟨s0, s1, s2, s3, s4, s5, s6, s7, s8⟩
    go_simp
    with_reducible rfl
   rotate_left
   ·simp only [Act.put, List.setIfInBounds_toArray, List.set_cons_zero, List.set_cons_succ, i64_w, i32_w]
    rfl
   refine take_ (i := 5) (N := some 26) (v := ?_) (a' := ?_) #[true, true, true, false, false, true, false, false, false, false, false, false, false, false, false, false, false, false, false, false, false] rfl rfl (take_ofW HT_.out HW_.out (by kernel_rfl)) (fun _ _ _ h => h) (Or.inl ⟨by rfl, ?_⟩) hHeld ?_ ?_
   rotate_left
   ·rintro w' ⟨s0, s1, s2, s3, s4, s5, s6, s7, s8⟩
    go_simp
    with_reducible rfl
   rotate_left
   ·simp only [Act.put, List.setIfInBounds_toArray, List.set_cons_zero, List.set_cons_succ, i64_w, i32_w]
    rfl
   refine one_ (i := 3) (N := some 24) #[true, true, true, true, false, true, false, false, false, false, false, false, false, false, false, false, false, false, false, false, false] rfl rfl (one_of HT_.out (by kernel_rfl)) (by decide) (fun K hK => ?_)
   refine goes_ Try.func10 (by kernel_rfl) rfl #[.agg #[.int .u32 a0_0, .int .u32 a0_1, .int .u64 a0_2, .int .u64 a0_3, .int .u64 a0_4, .int .u64 a0_5, .int .u64 a0_6, .int .u64 a0_7, .int .u64 a0_8]] (by rfl) rfl rfl (by (try simp only [List.map_toArray, List.map_cons, List.map_nil]); first | done | rfl | (simp only [List.length_drop, List.length_take]; rfl)) ?_
   with_reducible refine (data_Bytes.calls k a0_0 a0_1 a0_2 a0_3 a0_4 a0_5 a0_6 a0_7 a0_8 t360 _ A7.out).mono ?_
   rintro e w60 ⟨v361, rfl, ho0, hb⟩
   refine ⟨_, rfl, ?_⟩
   have n0_ := Aside0.mk (Kd.R_lower ho0 (below_size (by repeat (first | (with_reducible first | exact HB.out | apply below_alloc | apply pw_below_drewN | apply below_drew1 | refine below_set ?_ GE336.out | refine below_set ?_ GE348.out | refine below_set ?_ GE359.out) | exact HB.out))))
   have n1_ := Aside0.mk (blk_below (g := gb336) (o := .cells #[.int .u32 a0_0, .int .u32 a0_1, .int .u64 a0_2, .int .u64 a0_3, .int .u64 a0_4, .int .u64 a0_5, .int .u64 a0_6, .int .u64 a0_7, .int .u64 a0_8] 26 (0, 0)) (by (with_reducible repeat (first | refine blk_drewN ?_ _ | refine blk_drew ?_ | refine blk_alloc ?_ _)); exact BK336.out) hb)
   have n2_ := Aside0.mk (blk_below (g := gb348) (o := .cells #[.int .u32 t338, .int .u32 t339, .int .u64 t340, .int .u64 t341, .int .u64 t342, .int .u64 t343, .int .u64 t344, .int .u64 t345, .int .u64 t346] 26 (0, 0)) (by (with_reducible repeat (first | refine blk_drewN ?_ _ | refine blk_drew ?_ | refine blk_alloc ?_ _)); exact BK348.out) hb)
   have n3_ := Aside0.mk (blk_below (g := gb359) (o := .cells #[.int .u32 t349, .int .u32 t350, .int .u64 t351, .int .u64 t352, .int .u64 t353, .int .u64 t354, .int .u64 t355, .int .u64 t356, .int .u64 t357] 26 (0, 0)) (by (with_reducible repeat (first | refine blk_drewN ?_ _ | refine blk_drew ?_ | refine blk_alloc ?_ _)); exact BK359.out) hb)
   have n4_ := Aside0.mk (below_step (by repeat (first | (with_reducible first | exact HB.out | apply below_alloc | apply pw_below_drewN | apply below_drew1 | refine below_set ?_ GE336.out | refine below_set ?_ GE348.out | refine below_set ?_ GE359.out) | exact HB.out)) hb)
   clear BK336
   clear BK348
   clear BK359
   clear HB
   have HO362 := n0_
   have BK336 := n1_
   have BK348 := n2_
   have BK359 := n3_
   have HB := n4_
   clear n0_ n1_ n2_ n3_ n4_
   (try clear hb)
   (try clear hb2)
   (try clear hk)
   (try clear hi)
   (try clear ho0)
   refine hK.out _ _ ⟨(blk_cell BK336.out 0).trans rfl, (blk_cell BK336.out 1).trans rfl, (blk_cell BK336.out 2).trans rfl, (blk_cell BK336.out 3).trans rfl, (blk_cell BK336.out 4).trans rfl, (blk_cell BK336.out 5).trans rfl, (blk_cell BK336.out 6).trans rfl, (blk_cell BK336.out 7).trans rfl, (blk_cell BK336.out 8).trans rfl⟩ (fun hHeld => ?_)
   clear hK K
   refine norm_ (a' := ?_) ?_ ?_
   rotate_left
   ·show Act.put _ (some 24) _ = _
    simp only [Act.put, List.setIfInBounds_toArray, List.set_cons_zero, List.set_cons_succ, i64_w, i32_w]
    rfl
   refine join_ (σ := Value) 13 #[true, true, true, true, true, true, true, true, false, false, false, false, false, false, false, false, false, false, false, false, false] (fun s_ => [(25, .string (strOfNums t360)), (27, s_), (28, .string (strOfNums t363))]) (fun s_ w' => (w'.cell? ⟨gb336, 0, none⟩ = some (.int .u32 a0_0) ∧ w'.cell? ⟨gb336, 1, none⟩ = some (.int .u32 a0_1) ∧ w'.cell? ⟨gb336, 2, none⟩ = some (.int .u64 a0_2) ∧ w'.cell? ⟨gb336, 3, none⟩ = some (.int .u64 a0_3) ∧ w'.cell? ⟨gb336, 4, none⟩ = some (.int .u64 a0_4) ∧ w'.cell? ⟨gb336, 5, none⟩ = some (.int .u64 a0_5) ∧ w'.cell? ⟨gb336, 6, none⟩ = some (.int .u64 a0_6) ∧ w'.cell? ⟨gb336, 7, none⟩ = some (.int .u64 a0_7) ∧ w'.cell? ⟨gb336, 8, none⟩ = some (.int .u64 a0_8)) ∧ (Kd.R (Kd.int .u8) 5 w' w.heap.size (fun k_ => some k_ ≠ (s_ : Value).ownBlock) v361 t360) ∧ (Kd.R (Kd.int .u8) 5 w' w.heap.size (fun k_ => some k_ ≠ (v361 : Value).ownBlock) s_ t363) ∧ (w'.heap[gb336]? = some (.cells #[.int .u32 a0_0, .int .u32 a0_1, .int .u64 a0_2, .int .u64 a0_3, .int .u64 a0_4, .int .u64 a0_5, .int .u64 a0_6, .int .u64 a0_7, .int .u64 a0_8] 26 (0, 0))) ∧ (w'.heap[gb348]? = some (.cells #[.int .u32 t338, .int .u32 t339, .int .u64 t340, .int .u64 t341, .int .u64 t342, .int .u64 t343, .int .u64 t344, .int .u64 t345, .int .u64 t346] 26 (0, 0))) ∧ (w'.heap[gb359]? = some (.cells #[.int .u32 t349, .int .u32 t350, .int .u64 t351, .int .u64 t352, .int .u64 t353, .int .u64 t354, .int .u64 t355, .int .u64 t356, .int .u64 t357] 26 (0, 0))) ∧ (Below w.heap.size w w')) ?_ ?_
   rotate_left
   ·intro hCont
    refine two_ (i := 4) (j := 6) (Ni := some 25) (Nj := some 27) #[true, true, true, true, true, true, false, false, false, false, false, false, false, false, false, false, false, false, false, false, false] #[true, true, true, true, false, true, true, false, false, false, false, false, false, false, false, false, false, false, false, false, false] rfl rfl rfl rfl (two_of HT_.out (by kernel_rfl)) (by decide) (by decide) (fun K hK => ?_) (fun K hK => ?_)
    ·skip
     have hcv61 := own_string (P := Try.prog) Try.underlying28 Try.underlying5 Try.underlying9 (Kd.own_of_R HO362.out)
     refine value_ (w1 := ?_) (v := ?_) (by rfl) rfl ?_ ?_
     rotate_left 2
     ·go_simp
      constructor
      ·rfl
      ·rfl
     clear hcv61
     refine hK.out _ _ ⟨(blk_cell BK336.out 0).trans rfl, (blk_cell BK336.out 1).trans rfl, (blk_cell BK336.out 2).trans rfl, (blk_cell BK336.out 3).trans rfl, (blk_cell BK336.out 4).trans rfl, (blk_cell BK336.out 5).trans rfl, (blk_cell BK336.out 6).trans rfl, (blk_cell BK336.out 7).trans rfl, (blk_cell BK336.out 8).trans rfl⟩ (fun hHeld => ?_)
     clear hK K
     refine norm_ (a' := ?_) ?_ ?_
     rotate_left
     ·show Act.put _ (some 25) _ = _
      simp only [Act.put, List.setIfInBounds_toArray, List.set_cons_zero, List.set_cons_succ, i64_w, i32_w]
      rfl
     refine one_ (i := 6) (N := some 27) #[true, true, true, true, true, true, true, false, false, false, false, false, false, false, false, false, false, false, false, false, false] rfl rfl (one_of HT_.out (by kernel_rfl)) (by decide) (fun K hK => ?_)
     refine goes_ Try.func17 (by kernel_rfl) rfl #[.agg #[.int .u32 a0_0, .int .u32 a0_1, .int .u64 a0_2, .int .u64 a0_3, .int .u64 a0_4, .int .u64 a0_5, .int .u64 a0_6, .int .u64 a0_7, .int .u64 a0_8]] (by rfl) rfl rfl (by (try simp only [List.map_toArray, List.map_cons, List.map_nil]); first | done | rfl | (simp only [List.length_drop, List.length_take]; rfl)) ?_
     with_reducible refine (fairleadref04_Bytes.calls k a0_0 a0_1 a0_2 a0_3 a0_4 a0_5 a0_6 a0_7 a0_8 t363 _ A8.out).mono ?_
     rintro e w62 ⟨v364, rfl, ho0, hb⟩
     refine ⟨_, rfl, ?_⟩
     have n0_ := Aside0.mk (Kd.R_elder' (by (with_reducible repeat (first | apply Kd.R_alloc | apply Kd.R_drewN | apply Kd.R_drew)); exact HO362.out) (Kd.R_base ho0) hb)
     have n1_ := Aside0.mk (Kd.R_lower (Kd.R_new' ho0 (Kd.R_lt (by (with_reducible repeat (first | apply Kd.R_alloc | apply Kd.R_drewN | apply Kd.R_drew)); exact HO362.out))) (below_size (by repeat (first | (with_reducible first | exact HB.out | apply below_alloc | apply pw_below_drewN | apply below_drew1 | refine below_set ?_ GE336.out | refine below_set ?_ GE348.out | refine below_set ?_ GE359.out) | exact HB.out))))
     have n2_ := Aside0.mk (blk_below (g := gb336) (o := .cells #[.int .u32 a0_0, .int .u32 a0_1, .int .u64 a0_2, .int .u64 a0_3, .int .u64 a0_4, .int .u64 a0_5, .int .u64 a0_6, .int .u64 a0_7, .int .u64 a0_8] 26 (0, 0)) (by (with_reducible repeat (first | refine blk_drewN ?_ _ | refine blk_drew ?_ | refine blk_alloc ?_ _)); exact BK336.out) hb)
     have n3_ := Aside0.mk (blk_below (g := gb348) (o := .cells #[.int .u32 t338, .int .u32 t339, .int .u64 t340, .int .u64 t341, .int .u64 t342, .int .u64 t343, .int .u64 t344, .int .u64 t345, .int .u64 t346] 26 (0, 0)) (by (with_reducible repeat (first | refine blk_drewN ?_ _ | refine blk_drew ?_ | refine blk_alloc ?_ _)); exact BK348.out) hb)
     have n4_ := Aside0.mk (blk_below (g := gb359) (o := .cells #[.int .u32 t349, .int .u32 t350, .int .u64 t351, .int .u64 t352, .int .u64 t353, .int .u64 t354, .int .u64 t355, .int .u64 t356, .int .u64 t357] 26 (0, 0)) (by (with_reducible repeat (first | refine blk_drewN ?_ _ | refine blk_drew ?_ | refine blk_alloc ?_ _)); exact BK359.out) hb)
     have n5_ := Aside0.mk (below_step (by repeat (first | (with_reducible first | exact HB.out | apply below_alloc | apply pw_below_drewN | apply below_drew1 | refine below_set ?_ GE336.out | refine below_set ?_ GE348.out | refine below_set ?_ GE359.out) | exact HB.out)) hb)
     clear HO362
     clear BK336
     clear BK348
     clear BK359
     clear HB
     have HO362 := n0_
     have HO365 := n1_
     have BK336 := n2_
     have BK348 := n3_
     have BK359 := n4_
     have HB := n5_
     clear n0_ n1_ n2_ n3_ n4_ n5_
     (try clear hb)
     (try clear hb2)
     (try clear hk)
     (try clear hi)
     (try clear ho0)
     refine hK.out _ _ ⟨(blk_cell BK336.out 0).trans rfl, (blk_cell BK336.out 1).trans rfl, (blk_cell BK336.out 2).trans rfl, (blk_cell BK336.out 3).trans rfl, (blk_cell BK336.out 4).trans rfl, (blk_cell BK336.out 5).trans rfl, (blk_cell BK336.out 6).trans rfl, (blk_cell BK336.out 7).trans rfl, (blk_cell BK336.out 8).trans rfl⟩ (fun hHeld => ?_)
     clear hK K
     refine norm_ (a' := ?_) ?_ ?_
     rotate_left
     ·show Act.put _ (some 27) _ = _
      simp only [Act.put, List.setIfInBounds_toArray, List.set_cons_zero, List.set_cons_succ, i64_w, i32_w]
      rfl
     refine one_ (i := 7) (N := some 28) #[true, true, true, true, true, true, true, true, false, false, false, false, false, false, false, false, false, false, false, false, false] rfl rfl (one_of HT_.out (by kernel_rfl)) (by decide) (fun K hK => ?_)
     have hcv63 := own_string (P := Try.prog) Try.underlying28 Try.underlying5 Try.underlying9 (Kd.own_of_R HO365.out)
     refine value_ (w1 := ?_) (v := ?_) (by rfl) rfl ?_ ?_
     rotate_left 2
     ·go_simp
      constructor
      ·rfl
      ·rfl
     clear hcv63
     refine hK.out _ _ ⟨(blk_cell BK336.out 0).trans rfl, (blk_cell BK336.out 1).trans rfl, (blk_cell BK336.out 2).trans rfl, (blk_cell BK336.out 3).trans rfl, (blk_cell BK336.out 4).trans rfl, (blk_cell BK336.out 5).trans rfl, (blk_cell BK336.out 6).trans rfl, (blk_cell BK336.out 7).trans rfl, (blk_cell BK336.out 8).trans rfl⟩ (fun hHeld => ?_)
     clear hK K
     refine norm_ (a' := ?_) ?_ ?_
     rotate_left
     ·show Act.put _ (some 28) _ = _
      simp only [Act.put, List.setIfInBounds_toArray, List.set_cons_zero, List.set_cons_succ, i64_w, i32_w]
      rfl
     exact norm_ (by simp only [putAll, Act.put, List.setIfInBounds_toArray, List.set_cons_zero, List.set_cons_succ] <;> (try simp only [IntKind.wrap_u32])) (hCont (v364) _ ⟨hHeld, (by (with_reducible repeat (first | apply Kd.R_alloc | apply Kd.R_drewN | apply Kd.R_drew)); exact Kd.R_mono HO362.out (fun _ hk => by first | exact hk.2 | exact hk | exact trivial)), (by (with_reducible repeat (first | apply Kd.R_alloc | apply Kd.R_drewN | apply Kd.R_drew)); exact Kd.R_mono HO365.out (fun _ hk => by first | exact hk.2 | exact hk | exact trivial)), (by (with_reducible repeat (first | refine blk_drewN ?_ _ | refine blk_drew ?_ | refine blk_alloc ?_ _)); exact BK336.out), (by (with_reducible repeat (first | refine blk_drewN ?_ _ | refine blk_drew ?_ | refine blk_alloc ?_ _)); exact BK348.out), (by (with_reducible repeat (first | refine blk_drewN ?_ _ | refine blk_drew ?_ | refine blk_alloc ?_ _)); exact BK359.out), (by repeat (first | (with_reducible first | exact HB.out | apply below_alloc | apply pw_below_drewN | apply below_drew1 | refine below_set ?_ GE336.out | refine below_set ?_ GE348.out | refine below_set ?_ GE359.out) | exact HB.out))⟩)
    ·skip
     refine goes_ Try.func17 (by kernel_rfl) rfl #[.agg #[.int .u32 a0_0, .int .u32 a0_1, .int .u64 a0_2, .int .u64 a0_3, .int .u64 a0_4, .int .u64 a0_5, .int .u64 a0_6, .int .u64 a0_7, .int .u64 a0_8]] (by rfl) rfl rfl (by (try simp only [List.map_toArray, List.map_cons, List.map_nil]); first | done | rfl | (simp only [List.length_drop, List.length_take]; rfl)) ?_
     with_reducible refine (fairleadref04_Bytes.calls k a0_0 a0_1 a0_2 a0_3 a0_4 a0_5 a0_6 a0_7 a0_8 t363 _ A8.out).mono ?_
     rintro e w61 ⟨v364, rfl, ho0, hb⟩
     refine ⟨_, rfl, ?_⟩
     have n0_ := Aside0.mk (Kd.R_elder' (by (with_reducible repeat (first | apply Kd.R_alloc | apply Kd.R_drewN | apply Kd.R_drew)); exact HO362.out) (Kd.R_base ho0) hb)
     have n1_ := Aside0.mk (Kd.R_lower (Kd.R_new' ho0 (Kd.R_lt (by (with_reducible repeat (first | apply Kd.R_alloc | apply Kd.R_drewN | apply Kd.R_drew)); exact HO362.out))) (below_size (by repeat (first | (with_reducible first | exact HB.out | apply below_alloc | apply pw_below_drewN | apply below_drew1 | refine below_set ?_ GE336.out | refine below_set ?_ GE348.out | refine below_set ?_ GE359.out) | exact HB.out))))
     have n2_ := Aside0.mk (blk_below (g := gb336) (o := .cells #[.int .u32 a0_0, .int .u32 a0_1, .int .u64 a0_2, .int .u64 a0_3, .int .u64 a0_4, .int .u64 a0_5, .int .u64 a0_6, .int .u64 a0_7, .int .u64 a0_8] 26 (0, 0)) (by (with_reducible repeat (first | refine blk_drewN ?_ _ | refine blk_drew ?_ | refine blk_alloc ?_ _)); exact BK336.out) hb)
     have n3_ := Aside0.mk (blk_below (g := gb348) (o := .cells #[.int .u32 t338, .int .u32 t339, .int .u64 t340, .int .u64 t341, .int .u64 t342, .int .u64 t343, .int .u64 t344, .int .u64 t345, .int .u64 t346] 26 (0, 0)) (by (with_reducible repeat (first | refine blk_drewN ?_ _ | refine blk_drew ?_ | refine blk_alloc ?_ _)); exact BK348.out) hb)
     have n4_ := Aside0.mk (blk_below (g := gb359) (o := .cells #[.int .u32 t349, .int .u32 t350, .int .u64 t351, .int .u64 t352, .int .u64 t353, .int .u64 t354, .int .u64 t355, .int .u64 t356, .int .u64 t357] 26 (0, 0)) (by (with_reducible repeat (first | refine blk_drewN ?_ _ | refine blk_drew ?_ | refine blk_alloc ?_ _)); exact BK359.out) hb)
     have n5_ := Aside0.mk (below_step (by repeat (first | (with_reducible first | exact HB.out | apply below_alloc | apply pw_below_drewN | apply below_drew1 | refine below_set ?_ GE336.out | refine below_set ?_ GE348.out | refine below_set ?_ GE359.out) | exact HB.out)) hb)
     clear HO362
     clear BK336
     clear BK348
     clear BK359
     clear HB
     have HO362 := n0_
     have HO365 := n1_
     have BK336 := n2_
     have BK348 := n3_
     have BK359 := n4_
     have HB := n5_
     clear n0_ n1_ n2_ n3_ n4_ n5_
     (try clear hb)
     (try clear hb2)
     (try clear hk)
     (try clear hi)
     (try clear ho0)
     refine hK.out _ _ ⟨(blk_cell BK336.out 0).trans rfl, (blk_cell BK336.out 1).trans rfl, (blk_cell BK336.out 2).trans rfl, (blk_cell BK336.out 3).trans rfl, (blk_cell BK336.out 4).trans rfl, (blk_cell BK336.out 5).trans rfl, (blk_cell BK336.out 6).trans rfl, (blk_cell BK336.out 7).trans rfl, (blk_cell BK336.out 8).trans rfl⟩ (fun hHeld => ?_)
     clear hK K
     refine norm_ (a' := ?_) ?_ ?_
     rotate_left
     ·show Act.put _ (some 27) _ = _
      simp only [Act.put, List.setIfInBounds_toArray, List.set_cons_zero, List.set_cons_succ, i64_w, i32_w]
      rfl
     refine two_ (i := 4) (j := 7) (Ni := some 25) (Nj := some 28) #[true, true, true, true, true, true, true, false, false, false, false, false, false, false, false, false, false, false, false, false, false] #[true, true, true, true, false, true, true, true, false, false, false, false, false, false, false, false, false, false, false, false, false] rfl rfl rfl rfl (two_of HT_.out (by kernel_rfl)) (by decide) (by decide) (fun K hK => ?_) (fun K hK => ?_)
     ·skip
      have hcv62 := own_string (P := Try.prog) Try.underlying28 Try.underlying5 Try.underlying9 (Kd.own_of_R HO362.out)
      refine value_ (w1 := ?_) (v := ?_) (by rfl) rfl ?_ ?_
      rotate_left 2
      ·go_simp
       constructor
       ·rfl
       ·rfl
      clear hcv62
      refine hK.out _ _ ⟨(blk_cell BK336.out 0).trans rfl, (blk_cell BK336.out 1).trans rfl, (blk_cell BK336.out 2).trans rfl, (blk_cell BK336.out 3).trans rfl, (blk_cell BK336.out 4).trans rfl, (blk_cell BK336.out 5).trans rfl, (blk_cell BK336.out 6).trans rfl, (blk_cell BK336.out 7).trans rfl, (blk_cell BK336.out 8).trans rfl⟩ (fun hHeld => ?_)
      clear hK K
      refine norm_ (a' := ?_) ?_ ?_
      rotate_left
      ·show Act.put _ (some 25) _ = _
       simp only [Act.put, List.setIfInBounds_toArray, List.set_cons_zero, List.set_cons_succ, i64_w, i32_w]
       rfl
      refine one_ (i := 7) (N := some 28) #[true, true, true, true, true, true, true, true, false, false, false, false, false, false, false, false, false, false, false, false, false] rfl rfl (one_of HT_.out (by kernel_rfl)) (by decide) (fun K hK => ?_)
      have hcv63 := own_string (P := Try.prog) Try.underlying28 Try.underlying5 Try.underlying9 (Kd.own_of_R HO365.out)
      refine value_ (w1 := ?_) (v := ?_) (by rfl) rfl ?_ ?_
      rotate_left 2
      ·go_simp
       constructor
       ·rfl
       ·rfl
      clear hcv63
      refine hK.out _ _ ⟨(blk_cell BK336.out 0).trans rfl, (blk_cell BK336.out 1).trans rfl, (blk_cell BK336.out 2).trans rfl, (blk_cell BK336.out 3).trans rfl, (blk_cell BK336.out 4).trans rfl, (blk_cell BK336.out 5).trans rfl, (blk_cell BK336.out 6).trans rfl, (blk_cell BK336.out 7).trans rfl, (blk_cell BK336.out 8).trans rfl⟩ (fun hHeld => ?_)
      clear hK K
      refine norm_ (a' := ?_) ?_ ?_
      rotate_left
      ·show Act.put _ (some 28) _ = _
       simp only [Act.put, List.setIfInBounds_toArray, List.set_cons_zero, List.set_cons_succ, i64_w, i32_w]
       rfl
      exact norm_ (by simp only [putAll, Act.put, List.setIfInBounds_toArray, List.set_cons_zero, List.set_cons_succ] <;> (try simp only [IntKind.wrap_u32])) (hCont (v364) _ ⟨hHeld, (by (with_reducible repeat (first | apply Kd.R_alloc | apply Kd.R_drewN | apply Kd.R_drew)); exact Kd.R_mono HO362.out (fun _ hk => by first | exact hk.2 | exact hk | exact trivial)), (by (with_reducible repeat (first | apply Kd.R_alloc | apply Kd.R_drewN | apply Kd.R_drew)); exact Kd.R_mono HO365.out (fun _ hk => by first | exact hk.2 | exact hk | exact trivial)), (by (with_reducible repeat (first | refine blk_drewN ?_ _ | refine blk_drew ?_ | refine blk_alloc ?_ _)); exact BK336.out), (by (with_reducible repeat (first | refine blk_drewN ?_ _ | refine blk_drew ?_ | refine blk_alloc ?_ _)); exact BK348.out), (by (with_reducible repeat (first | refine blk_drewN ?_ _ | refine blk_drew ?_ | refine blk_alloc ?_ _)); exact BK359.out), (by repeat (first | (with_reducible first | exact HB.out | apply below_alloc | apply pw_below_drewN | apply below_drew1 | refine below_set ?_ GE336.out | refine below_set ?_ GE348.out | refine below_set ?_ GE359.out) | exact HB.out))⟩)
     ·skip
      have hcv62 := own_string (P := Try.prog) Try.underlying28 Try.underlying5 Try.underlying9 (Kd.own_of_R HO365.out)
      refine value_ (w1 := ?_) (v := ?_) (by rfl) rfl ?_ ?_
      rotate_left 2
      ·go_simp
       constructor
       ·rfl
       ·rfl
      clear hcv62
      refine hK.out _ _ ⟨(blk_cell BK336.out 0).trans rfl, (blk_cell BK336.out 1).trans rfl, (blk_cell BK336.out 2).trans rfl, (blk_cell BK336.out 3).trans rfl, (blk_cell BK336.out 4).trans rfl, (blk_cell BK336.out 5).trans rfl, (blk_cell BK336.out 6).trans rfl, (blk_cell BK336.out 7).trans rfl, (blk_cell BK336.out 8).trans rfl⟩ (fun hHeld => ?_)
      clear hK K
      refine norm_ (a' := ?_) ?_ ?_
      rotate_left
      ·show Act.put _ (some 28) _ = _
       simp only [Act.put, List.setIfInBounds_toArray, List.set_cons_zero, List.set_cons_succ, i64_w, i32_w]
       rfl
      refine one_ (i := 4) (N := some 25) #[true, true, true, true, true, true, true, true, false, false, false, false, false, false, false, false, false, false, false, false, false] rfl rfl (one_of HT_.out (by kernel_rfl)) (by decide) (fun K hK => ?_)
      have hcv63 := own_string (P := Try.prog) Try.underlying28 Try.underlying5 Try.underlying9 (Kd.own_of_R HO362.out)
      refine value_ (w1 := ?_) (v := ?_) (by rfl) rfl ?_ ?_
      rotate_left 2
      ·go_simp
       constructor
       ·rfl
       ·rfl
      clear hcv63
      refine hK.out _ _ ⟨(blk_cell BK336.out 0).trans rfl, (blk_cell BK336.out 1).trans rfl, (blk_cell BK336.out 2).trans rfl, (blk_cell BK336.out 3).trans rfl, (blk_cell BK336.out 4).trans rfl, (blk_cell BK336.out 5).trans rfl, (blk_cell BK336.out 6).trans rfl, (blk_cell BK336.out 7).trans rfl, (blk_cell BK336.out 8).trans rfl⟩ (fun hHeld => ?_)
      clear hK K
      refine norm_ (a' := ?_) ?_ ?_
      rotate_left
      ·show Act.put _ (some 25) _ = _
       simp only [Act.put, List.setIfInBounds_toArray, List.set_cons_zero, List.set_cons_succ, i64_w, i32_w]
       rfl
      exact norm_ (by simp only [putAll, Act.put, List.setIfInBounds_toArray, List.set_cons_zero, List.set_cons_succ] <;> (try simp only [IntKind.wrap_u32])) (hCont (v364) _ ⟨hHeld, (by (with_reducible repeat (first | apply Kd.R_alloc | apply Kd.R_drewN | apply Kd.R_drew)); exact Kd.R_mono HO362.out (fun _ hk => by first | exact hk.2 | exact hk | exact trivial)), (by (with_reducible repeat (first | apply Kd.R_alloc | apply Kd.R_drewN | apply Kd.R_drew)); exact Kd.R_mono HO365.out (fun _ hk => by first | exact hk.2 | exact hk | exact trivial)), (by (with_reducible repeat (first | refine blk_drewN ?_ _ | refine blk_drew ?_ | refine blk_alloc ?_ _)); exact BK336.out), (by (with_reducible repeat (first | refine blk_drewN ?_ _ | refine blk_drew ?_ | refine blk_alloc ?_ _)); exact BK348.out), (by (with_reducible repeat (first | refine blk_drewN ?_ _ | refine blk_drew ?_ | refine blk_alloc ?_ _)); exact BK359.out), (by repeat (first | (with_reducible first | exact HB.out | apply below_alloc | apply pw_below_drewN | apply below_drew1 | refine below_set ?_ GE336.out | refine below_set ?_ GE348.out | refine below_set ?_ GE359.out) | exact HB.out))⟩)
   rintro v364 w64 ⟨hS_, h0_, h1_, h2_, h3_, h4_, h5_⟩
   have n0_ : Aside0 (Kd.R (Kd.int .u8) 5 w64 w.heap.size (fun k_ => some k_ ≠ (v364 : Value).ownBlock) v361 t360) := ⟨h0_⟩
   have n1_ : Aside0 (Kd.R (Kd.int .u8) 5 w64 w.heap.size (fun k_ => some k_ ≠ (v361 : Value).ownBlock) v364 t363) := ⟨h1_⟩
   have n2_ : Aside0 (w64.heap[gb336]? = some (.cells #[.int .u32 a0_0, .int .u32 a0_1, .int .u64 a0_2, .int .u64 a0_3, .int .u64 a0_4, .int .u64 a0_5, .int .u64 a0_6, .int .u64 a0_7, .int .u64 a0_8] 26 (0, 0))) := ⟨h2_⟩
   have n3_ : Aside0 (w64.heap[gb348]? = some (.cells #[.int .u32 t338, .int .u32 t339, .int .u64 t340, .int .u64 t341, .int .u64 t342, .int .u64 t343, .int .u64 t344, .int .u64 t345, .int .u64 t346] 26 (0, 0))) := ⟨h3_⟩
   have n4_ : Aside0 (w64.heap[gb359]? = some (.cells #[.int .u32 t349, .int .u32 t350, .int .u64 t351, .int .u64 t352, .int .u64 t353, .int .u64 t354, .int .u64 t355, .int .u64 t356, .int .u64 t357] 26 (0, 0))) := ⟨h4_⟩
   have n5_ : Aside0 (Below w.heap.size w w64) := ⟨h5_⟩
   clear BK336
   clear BK348
   clear BK359
   clear HB
   clear h0_ h1_ h2_ h3_ h4_ h5_
   have HO362 := n0_
   have HO365 := n1_
   have BK336 := n2_
   have BK348 := n3_
   have BK359 := n4_
   have HB := n5_
   clear n0_ n1_ n2_ n3_ n4_ n5_
   have hHeld : w64.cell? ⟨gb336, 0, none⟩ = some (.int .u32 a0_0) ∧ w64.cell? ⟨gb336, 1, none⟩ = some (.int .u32 a0_1) ∧ w64.cell? ⟨gb336, 2, none⟩ = some (.int .u64 a0_2) ∧ w64.cell? ⟨gb336, 3, none⟩ = some (.int .u64 a0_3) ∧ w64.cell? ⟨gb336, 4, none⟩ = some (.int .u64 a0_4) ∧ w64.cell? ⟨gb336, 5, none⟩ = some (.int .u64 a0_5) ∧ w64.cell? ⟨gb336, 6, none⟩ = some (.int .u64 a0_6) ∧ w64.cell? ⟨gb336, 7, none⟩ = some (.int .u64 a0_7) ∧ w64.cell? ⟨gb336, 8, none⟩ = some (.int .u64 a0_8) := hS_
   refine norm_ (a' := ?_) ?_ ?_
   rotate_left
   ·simp only [putAll, Act.put, List.setIfInBounds_toArray, List.set_cons_zero, List.set_cons_succ]
    rfl
   refine pure_ (i := 8) (N := some 29) (v := ?_) (a' := ?_) #[true, true, true, true, true, true, true, true, true, false, false, false, false, false, false, false, false, false, false, false, false] rfl rfl (any_of HT_.out (by kernel_rfl)) (fun _ _ _ h => h) (Or.inl ⟨by rfl, ?_⟩) ?_ ?_
   rotate_left
   ·intro w'
    go_simp
    with_reducible rfl
   rotate_left
   ·simp only [Act.put, List.setIfInBounds_toArray, List.set_cons_zero, List.set_cons_succ, i64_w, i32_w]
    rfl
   refine pure_ (i := 9) (N := some 30) (v := ?_) (a' := ?_) #[true, true, true, true, true, true, true, true, true, true, false, false, false, false, false, false, false, false, false, false, false] rfl rfl (any_of HT_.out (by kernel_rfl)) (fun _ _ _ h => h) (Or.inl ⟨by rfl, ?_⟩) ?_ ?_
   rotate_left
   ·intro w'
    go_simp
    with_reducible rfl
   rotate_left
   ·simp only [Act.put, List.setIfInBounds_toArray, List.set_cons_zero, List.set_cons_succ, i64_w, i32_w]
    rfl
   refine pure_ (i := 10) (N := some 31) (v := ?_) (a' := ?_) #[true, true, true, true, true, true, true, true, true, true, true, false, false, false, false, false, false, false, false, false, false] rfl rfl (any_of HT_.out (by kernel_rfl)) (fun _ _ _ h => h) (Or.inl ⟨by rfl, ?_⟩) ?_ ?_
   rotate_left
   ·intro w'
    go_simp
    with_reducible rfl
   rotate_left
   ·simp only [Act.put, List.setIfInBounds_toArray, List.set_cons_zero, List.set_cons_succ, i64_w, i32_w]
    rfl
   refine pure_ (i := 11) (N := some 32) (v := undef) (a' := ?_) #[true, true, true, true, true, true, true, true, true, true, true, true, false, false, false, false, false, false, false, false, false] rfl rfl (any_of HT_.out (by kernel_rfl)) (fun _ _ _ h => h) (Or.inr ⟨by rfl, rfl⟩) ?_ ?_
   rotate_left
   ·simp only [Act.put, List.setIfInBounds_toArray, List.set_cons_zero, List.set_cons_succ, i64_w, i32_w]
    rfl
   refine pure_ (i := 12) (N := some 33) (v := undef) (a' := ?_) #[true, true, true, true, true, true, true, true, true, true, true, true, true, false, false, false, false, false, false, false, false] rfl rfl (any_of HT_.out (by kernel_rfl)) (fun _ _ _ h => h) (Or.inr ⟨by rfl, rfl⟩) ?_ ?_
   rotate_left
   ·simp only [Act.put, List.setIfInBounds_toArray, List.set_cons_zero, List.set_cons_succ, i64_w, i32_w]
    rfl
   refine pure_ (i := 13) (N := some 34) (v := undef) (a' := ?_) #[true, true, true, true, true, true, true, true, true, true, true, true, true, true, false, false, false, false, false, false, false] rfl rfl (any_of HT_.out (by kernel_rfl)) (fun _ _ _ h => h) (Or.inr ⟨by rfl, rfl⟩) ?_ ?_
   rotate_left
   ·simp only [Act.put, List.setIfInBounds_toArray, List.set_cons_zero, List.set_cons_succ, i64_w, i32_w]
    rfl
   refine pure_ (i := 14) (N := some 35) (v := ?_) (a' := ?_) #[true, true, true, true, true, true, true, true, true, true, true, true, true, true, true, false, false, false, false, false, false] rfl rfl (any_of HT_.out (by kernel_rfl)) (fun _ _ _ h => h) (Or.inl ⟨by rfl, ?_⟩) ?_ ?_
   rotate_left
   ·intro w'
    go_simp
    with_reducible rfl
   rotate_left
   ·simp only [Act.put, List.setIfInBounds_toArray, List.set_cons_zero, List.set_cons_succ, i64_w, i32_w]
    rfl
   refine pure_ (i := 15) (N := some 36) (v := ?_) (a' := ?_) #[true, true, true, true, true, true, true, true, true, true, true, true, true, true, true, true, false, false, false, false, false] rfl rfl (any_of HT_.out (by kernel_rfl)) (fun _ _ _ h => h) (Or.inl ⟨by rfl, ?_⟩) ?_ ?_
   rotate_left
   ·intro w'
    go_simp
    with_reducible rfl
   rotate_left
   ·simp only [Act.put, List.setIfInBounds_toArray, List.set_cons_zero, List.set_cons_succ, i64_w, i32_w]
    rfl
   refine pure_ (i := 16) (N := some 37) (v := undef) (a' := ?_) #[true, true, true, true, true, true, true, true, true, true, true, true, true, true, true, true, true, false, false, false, false] rfl rfl (any_of HT_.out (by kernel_rfl)) (fun _ _ _ h => h) (Or.inr ⟨by rfl, rfl⟩) ?_ ?_
   rotate_left
   ·simp only [Act.put, List.setIfInBounds_toArray, List.set_cons_zero, List.set_cons_succ, i64_w, i32_w]
    rfl
   refine pure_ (i := 17) (N := some 38) (v := undef) (a' := ?_) #[true, true, true, true, true, true, true, true, true, true, true, true, true, true, true, true, true, true, false, false, false] rfl rfl (any_of HT_.out (by kernel_rfl)) (fun _ _ _ h => h) (Or.inr ⟨by rfl, rfl⟩) ?_ ?_
   rotate_left
   ·simp only [Act.put, List.setIfInBounds_toArray, List.set_cons_zero, List.set_cons_succ, i64_w, i32_w]
    rfl
   refine pure_ (i := 18) (N := some 39) (v := undef) (a' := ?_) #[true, true, true, true, true, true, true, true, true, true, true, true, true, true, true, true, true, true, true, false, false] rfl rfl (any_of HT_.out (by kernel_rfl)) (fun _ _ _ h => h) (Or.inr ⟨by rfl, rfl⟩) ?_ ?_
   rotate_left
   ·simp only [Act.put, List.setIfInBounds_toArray, List.set_cons_zero, List.set_cons_succ, i64_w, i32_w]
    rfl
   refine pure_ (i := 19) (N := some 40) (v := ?_) (a' := ?_) #[true, true, true, true, true, true, true, true, true, true, true, true, true, true, true, true, true, true, true, true, false] rfl rfl (any_of HT_.out (by kernel_rfl)) (fun _ _ _ h => h) (Or.inl ⟨by rfl, ?_⟩) ?_ ?_
   rotate_left
   ·intro w'
    go_simp
    with_reducible rfl
   rotate_left
   ·simp only [Act.put, List.setIfInBounds_toArray, List.set_cons_zero, List.set_cons_succ, i64_w, i32_w]
    rfl
   refine pure_ (i := 20) (N := some 4) (v := ?_) (a' := ?_) #[true, true, true, true, true, true, true, true, true, true, true, true, true, true, true, true, true, true, true, true, true] rfl rfl (any_of HT_.out (by kernel_rfl)) (fun _ _ _ h => h) (Or.inl ⟨by rfl, ?_⟩) ?_ ?_
   rotate_left
   ·intro w'
    go_simp
    with_reducible rfl
   rotate_left
   ·simp only [Act.put, List.setIfInBounds_toArray, List.set_cons_zero, List.set_cons_succ, i64_w, i32_w]
    rfl
   refine done_ (done_of HT_.out (by kernel_rfl)) ?_
   try go_wp2
   go_ret
   exact ⟨by first | rfl | (simp [errW_none, errW_some] <;> rfl) | (simp [*, errW_none, errW_some] <;> rfl), by repeat (first | (with_reducible first | exact HB.out | apply below_alloc | apply pw_below_drewN | apply below_drew1 | refine below_set ?_ GE336.out | refine below_set ?_ GE348.out | refine below_set ?_ GE359.out) | exact HB.out)⟩
 ·replace c6 := Bool.eq_false_iff.mpr c6
  subst c6
  have H1 : (some false) = some r := by rw [if_neg (show ¬ (false = true) by decide)] at H; exact H
  clear H
  have H := H1
  clear H1
  obtain rfl := Option.some.inj H
  go_enter Try.func7, Try.ntmps7
  try go_wp2_with (first | ((with_reducible refine gate_dst (N := 2) rfl ?_); refine box_event ?hg (N := 2) ?hd (cs := #[.int .u32 a0_0, .int .u32 a0_1, .int .u64 a0_2, .int .u64 a0_3, .int .u64 a0_4, .int .u64 a0_5, .int .u64 a0_6, .int .u64 a0_7, .int .u64 a0_8]) (t := 26) ?hr ?_; (case hd => rfl); (case hg => rfl); (case hr => first | (go_simp; done) | (go_simp; rfl)); intro gb336 hg w65 hbox hb; have n0_ := Aside0.mk (below_step (by repeat (first | (with_reducible first | exact HB.out | apply below_alloc | apply pw_below_drewN | apply below_drew1) | exact HB.out)) hb); have n1_ := Aside0.mk (hbox); have n2_ := Aside0.mk ((by rw [hg]; exact (below_size (by repeat (first | (with_reducible first | exact HB.out | apply below_alloc | apply pw_below_drewN | apply below_drew1) | exact HB.out))) : w.heap.size ≤ gb336)); have n3_ := Aside0.mk ((by rw [hg]; exact (below_size (by repeat (first | (with_reducible first | exact HB.out | apply below_alloc | apply pw_below_drewN | apply below_drew1) | exact HB.out))) : w.heap.size ≤ gb336)); clear HB; have HB := n0_; have BK336 := n1_; have GW336 := n2_; have GE336 := n3_; clear n0_ n1_ n2_ n3_; clear hb hbox hg) | ((with_reducible refine gate_callee (f := 9) rfl ?_); refine goesL_ (some 10) rfl rfl Try.func9 (by kernel_rfl) rfl #[] rfl (by (try simp only [List.map_toArray, List.map_cons, List.map_nil]); first | done | rfl | (simp only [List.length_drop, List.length_take]; rfl)) ?_; (with_reducible refine (fairleadlaw04_awake.calls k  false _ A3.out).mono ?_); rintro e w66 ⟨rfl, hb⟩; refine ⟨_, rfl, ?_⟩; have n0_ := Aside0.mk (blk_below (g := gb336) (o := .cells #[.int .u32 a0_0, .int .u32 a0_1, .int .u64 a0_2, .int .u64 a0_3, .int .u64 a0_4, .int .u64 a0_5, .int .u64 a0_6, .int .u64 a0_7, .int .u64 a0_8] 26 (0, 0)) (by (with_reducible repeat (first | refine blk_drewN ?_ _ | refine blk_drew ?_ | refine blk_alloc ?_ _)); exact BK336.out) hb); have n1_ := Aside0.mk (below_step (by repeat (first | (with_reducible first | exact HB.out | apply below_alloc | apply pw_below_drewN | apply below_drew1 | refine below_set ?_ GE336.out) | exact HB.out)) hb); clear BK336; clear HB; have BK336 := n0_; have HB := n1_; clear n0_ n1_; (try clear hb); (try clear hb2); (try clear hk); (try clear hi)) | ((with_reducible refine gate_callee (f := 15) rfl ?_); refine goesL_ (some 13) rfl rfl Try.func15 (by kernel_rfl) rfl #[.slice A1 l1.length c1] rfl (by (try simp only [List.map_toArray, List.map_cons, List.map_nil]); first | done | rfl | (simp only [List.length_drop, List.length_take]; rfl)) ?_; (with_reducible refine (data_Of.calls k _ _ l1 t338 t339 t340 t341 t342 t343 t344 t345 t346 t347 _ ?side1 ?side2 A4.out).mono ?_); (case side1 => repeat (first | exact (Kd.C_below HR1.out HB.out) | (with_reducible refine Kd.C_alloc ?_ _) | (with_reducible refine Kd.C_drewN ?_ _) | (with_reducible refine Kd.C_drew ?_))); (case side2 => exact HC1.out); rintro e w67 ⟨rfl, hb⟩; refine ⟨_, rfl, ?_⟩; have n0_ := Aside0.mk (blk_below (g := gb336) (o := .cells #[.int .u32 a0_0, .int .u32 a0_1, .int .u64 a0_2, .int .u64 a0_3, .int .u64 a0_4, .int .u64 a0_5, .int .u64 a0_6, .int .u64 a0_7, .int .u64 a0_8] 26 (0, 0)) (by (with_reducible repeat (first | refine blk_drewN ?_ _ | refine blk_drew ?_ | refine blk_alloc ?_ _)); exact BK336.out) hb); have n1_ := Aside0.mk (below_step (by repeat (first | (with_reducible first | exact HB.out | apply below_alloc | apply pw_below_drewN | apply below_drew1 | refine below_set ?_ GE336.out) | exact HB.out)) hb); clear BK336; clear HB; have BK336 := n0_; have HB := n1_; clear n0_ n1_; (try clear hb); (try clear hb2); (try clear hk); (try clear hi)) | ((with_reducible refine gate_dst (N := 6) rfl ?_); refine box_event ?hg (N := 6) ?hd (cs := #[.int .u32 0, .int .u32 0, .int .u64 0, .int .u64 0, .int .u64 0, .int .u64 0, .int .u64 0, .int .u64 0, .int .u64 0]) (t := 26) ?hr ?_; (case hd => rfl); (case hg => rfl); (case hr => first | (go_simp; done) | (go_simp; rfl)); intro gb348 hg w68 hbox hb; have n0_ := Aside0.mk (blk_below (g := gb336) (o := .cells #[.int .u32 a0_0, .int .u32 a0_1, .int .u64 a0_2, .int .u64 a0_3, .int .u64 a0_4, .int .u64 a0_5, .int .u64 a0_6, .int .u64 a0_7, .int .u64 a0_8] 26 (0, 0)) (by (with_reducible repeat (first | refine blk_drewN ?_ _ | refine blk_drew ?_ | refine blk_alloc ?_ _)); exact BK336.out) hb); have n1_ := Aside0.mk (below_step (by repeat (first | (with_reducible first | exact HB.out | apply below_alloc | apply pw_below_drewN | apply below_drew1 | refine below_set ?_ GE336.out) | exact HB.out)) hb); have n2_ := Aside0.mk (hbox); have n3_ := Aside0.mk ((by rw [hg]; exact (below_size (by repeat (first | (with_reducible first | exact HB.out | apply below_alloc | apply pw_below_drewN | apply below_drew1 | refine below_set ?_ GE336.out) | exact HB.out))) : w.heap.size ≤ gb348)); have n4_ := Aside0.mk ((by rw [hg]; exact (below_size (by repeat (first | (with_reducible first | exact HB.out | apply below_alloc | apply pw_below_drewN | apply below_drew1 | refine below_set ?_ GE336.out) | exact HB.out))) : w.heap.size ≤ gb348)); have n5_ := Aside0.mk ((by rw [hg]; exact Nat.ne_of_lt (blk_lt (g := gb336) (o := .cells #[.int .u32 a0_0, .int .u32 a0_1, .int .u64 a0_2, .int .u64 a0_3, .int .u64 a0_4, .int .u64 a0_5, .int .u64 a0_6, .int .u64 a0_7, .int .u64 a0_8] 26 (0, 0)) (by (with_reducible repeat (first | refine blk_drewN ?_ _ | refine blk_drew ?_ | refine blk_alloc ?_ _)); exact BK336.out)) : gb336 ≠ gb348)); have n6_ := Aside0.mk ((by rw [hg]; exact Nat.ne_of_gt (blk_lt (g := gb336) (o := .cells #[.int .u32 a0_0, .int .u32 a0_1, .int .u64 a0_2, .int .u64 a0_3, .int .u64 a0_4, .int .u64 a0_5, .int .u64 a0_6, .int .u64 a0_7, .int .u64 a0_8] 26 (0, 0)) (by (with_reducible repeat (first | refine blk_drewN ?_ _ | refine blk_drew ?_ | refine blk_alloc ?_ _)); exact BK336.out)) : gb348 ≠ gb336)); clear BK336; clear HB; have BK336 := n0_; have HB := n1_; have BK348 := n2_; have GW348 := n3_; have GE348 := n4_; have NB336_348 := n5_; have NB348_336 := n6_; clear n0_ n1_ n2_ n3_ n4_ n5_ n6_; clear hb hbox hg; have hnb69 := NB348_336.out; have hnc69 := NB336_348.out; have hcz70_0 : w68.cell? ⟨gb348, 0, none⟩ = some (.int .u32 0) := (blk_cell BK348.out 0).trans rfl; have hcz70_1 : w68.cell? ⟨gb348, 1, none⟩ = some (.int .u32 0) := (blk_cell BK348.out 1).trans rfl; have hcz70_2 : w68.cell? ⟨gb348, 2, none⟩ = some (.int .u64 0) := (blk_cell BK348.out 2).trans rfl; have hcz70_3 : w68.cell? ⟨gb348, 3, none⟩ = some (.int .u64 0) := (blk_cell BK348.out 3).trans rfl; have hcz70_4 : w68.cell? ⟨gb348, 4, none⟩ = some (.int .u64 0) := (blk_cell BK348.out 4).trans rfl; have hcz70_5 : w68.cell? ⟨gb348, 5, none⟩ = some (.int .u64 0) := (blk_cell BK348.out 5).trans rfl; have hcz70_6 : w68.cell? ⟨gb348, 6, none⟩ = some (.int .u64 0) := (blk_cell BK348.out 6).trans rfl; have hcz70_7 : w68.cell? ⟨gb348, 7, none⟩ = some (.int .u64 0) := (blk_cell BK348.out 7).trans rfl; have hcz70_8 : w68.cell? ⟨gb348, 8, none⟩ = some (.int .u64 0) := (blk_cell BK348.out 8).trans rfl; have hfz70_0 := blk_frozen BK348.out 0; have hfz70_1 := blk_frozen BK348.out 1; have hfz70_2 := blk_frozen BK348.out 2; have hfz70_3 := blk_frozen BK348.out 3; have hfz70_4 := blk_frozen BK348.out 4; have hfz70_5 := blk_frozen BK348.out 5; have hfz70_6 := blk_frozen BK348.out 6; have hfz70_7 := blk_frozen BK348.out 7; have hfz70_8 := blk_frozen BK348.out 8) | ((with_reducible refine gate_callee (f := 16) rfl ?_); refine goesL_ (some 18) rfl rfl Try.func16 (by kernel_rfl) rfl #[.slice A1 l1.length c1] rfl (by (try simp only [List.map_toArray, List.map_cons, List.map_nil]); first | done | rfl | (simp only [List.length_drop, List.length_take]; rfl)) ?_; (with_reducible refine (fairleadref04_Of.calls k _ _ l1 t349 t350 t351 t352 t353 t354 t355 t356 t357 t358 _ ?side1 ?side2 A5.out).mono ?_); (case side1 => exact Kd.C_below HR1.out (by repeat (first | (with_reducible first | exact HB.out | apply below_alloc | apply pw_below_drewN | apply below_drew1 | refine below_set ?_ GE336.out | refine below_set ?_ GE348.out) | exact HB.out))); (case side2 => exact HC1.out); rintro e w71 ⟨rfl, hb⟩; refine ⟨_, rfl, ?_⟩; have n0_ := Aside0.mk (blk_below (g := gb336) (o := .cells #[.int .u32 a0_0, .int .u32 a0_1, .int .u64 a0_2, .int .u64 a0_3, .int .u64 a0_4, .int .u64 a0_5, .int .u64 a0_6, .int .u64 a0_7, .int .u64 a0_8] 26 (0, 0)) (by (with_reducible repeat (first | refine blk_drewN ?_ _ | refine blk_drew ?_ | refine blk_alloc ?_ _)); refine blk_far ?_ NB336_348.out _; (with_reducible repeat (first | refine blk_drewN ?_ _ | refine blk_drew ?_ | refine blk_alloc ?_ _)); refine blk_far ?_ NB336_348.out _; (with_reducible repeat (first | refine blk_drewN ?_ _ | refine blk_drew ?_ | refine blk_alloc ?_ _)); refine blk_far ?_ NB336_348.out _; (with_reducible repeat (first | refine blk_drewN ?_ _ | refine blk_drew ?_ | refine blk_alloc ?_ _)); refine blk_far ?_ NB336_348.out _; (with_reducible repeat (first | refine blk_drewN ?_ _ | refine blk_drew ?_ | refine blk_alloc ?_ _)); refine blk_far ?_ NB336_348.out _; (with_reducible repeat (first | refine blk_drewN ?_ _ | refine blk_drew ?_ | refine blk_alloc ?_ _)); refine blk_far ?_ NB336_348.out _; (with_reducible repeat (first | refine blk_drewN ?_ _ | refine blk_drew ?_ | refine blk_alloc ?_ _)); refine blk_far ?_ NB336_348.out _; (with_reducible repeat (first | refine blk_drewN ?_ _ | refine blk_drew ?_ | refine blk_alloc ?_ _)); refine blk_far ?_ NB336_348.out _; (with_reducible repeat (first | refine blk_drewN ?_ _ | refine blk_drew ?_ | refine blk_alloc ?_ _)); refine blk_far ?_ NB336_348.out _; (with_reducible repeat (first | refine blk_drewN ?_ _ | refine blk_drew ?_ | refine blk_alloc ?_ _)); exact BK336.out) hb); have n1_ := Aside0.mk (blk_below (g := gb348) (o := .cells #[.int .u32 t338, .int .u32 t339, .int .u64 t340, .int .u64 t341, .int .u64 t342, .int .u64 t343, .int .u64 t344, .int .u64 t345, .int .u64 t346] 26 (0, 0)) (by (with_reducible repeat (first | refine blk_drewN ?_ _ | refine blk_drew ?_ | refine blk_alloc ?_ _)); refine blk_put (cs := #[.int .u32 t338, .int .u32 t339, .int .u64 t340, .int .u64 t341, .int .u64 t342, .int .u64 t343, .int .u64 t344, .int .u64 t345, .int .u64 0]) ?_ 8 _ rfl; (with_reducible repeat (first | refine blk_drewN ?_ _ | refine blk_drew ?_ | refine blk_alloc ?_ _)); refine blk_put (cs := #[.int .u32 t338, .int .u32 t339, .int .u64 t340, .int .u64 t341, .int .u64 t342, .int .u64 t343, .int .u64 t344, .int .u64 0, .int .u64 0]) ?_ 7 _ rfl; (with_reducible repeat (first | refine blk_drewN ?_ _ | refine blk_drew ?_ | refine blk_alloc ?_ _)); refine blk_put (cs := #[.int .u32 t338, .int .u32 t339, .int .u64 t340, .int .u64 t341, .int .u64 t342, .int .u64 t343, .int .u64 0, .int .u64 0, .int .u64 0]) ?_ 6 _ rfl; (with_reducible repeat (first | refine blk_drewN ?_ _ | refine blk_drew ?_ | refine blk_alloc ?_ _)); refine blk_put (cs := #[.int .u32 t338, .int .u32 t339, .int .u64 t340, .int .u64 t341, .int .u64 t342, .int .u64 0, .int .u64 0, .int .u64 0, .int .u64 0]) ?_ 5 _ rfl; (with_reducible repeat (first | refine blk_drewN ?_ _ | refine blk_drew ?_ | refine blk_alloc ?_ _)); refine blk_put (cs := #[.int .u32 t338, .int .u32 t339, .int .u64 t340, .int .u64 t341, .int .u64 0, .int .u64 0, .int .u64 0, .int .u64 0, .int .u64 0]) ?_ 4 _ rfl; (with_reducible repeat (first | refine blk_drewN ?_ _ | refine blk_drew ?_ | refine blk_alloc ?_ _)); refine blk_put (cs := #[.int .u32 t338, .int .u32 t339, .int .u64 t340, .int .u64 0, .int .u64 0, .int .u64 0, .int .u64 0, .int .u64 0, .int .u64 0]) ?_ 3 _ rfl; (with_reducible repeat (first | refine blk_drewN ?_ _ | refine blk_drew ?_ | refine blk_alloc ?_ _)); refine blk_put (cs := #[.int .u32 t338, .int .u32 t339, .int .u64 0, .int .u64 0, .int .u64 0, .int .u64 0, .int .u64 0, .int .u64 0, .int .u64 0]) ?_ 2 _ rfl; (with_reducible repeat (first | refine blk_drewN ?_ _ | refine blk_drew ?_ | refine blk_alloc ?_ _)); refine blk_put (cs := #[.int .u32 t338, .int .u32 0, .int .u64 0, .int .u64 0, .int .u64 0, .int .u64 0, .int .u64 0, .int .u64 0, .int .u64 0]) ?_ 1 _ rfl; (with_reducible repeat (first | refine blk_drewN ?_ _ | refine blk_drew ?_ | refine blk_alloc ?_ _)); refine blk_put (cs := #[.int .u32 0, .int .u32 0, .int .u64 0, .int .u64 0, .int .u64 0, .int .u64 0, .int .u64 0, .int .u64 0, .int .u64 0]) ?_ 0 _ rfl; (with_reducible repeat (first | refine blk_drewN ?_ _ | refine blk_drew ?_ | refine blk_alloc ?_ _)); exact BK348.out) hb); have n2_ := Aside0.mk (below_step (by repeat (first | (with_reducible first | exact HB.out | apply below_alloc | apply pw_below_drewN | apply below_drew1 | refine below_set ?_ GE336.out | refine below_set ?_ GE348.out) | exact HB.out)) hb); clear BK336; clear BK348; clear HB; have BK336 := n0_; have BK348 := n1_; have HB := n2_; clear n0_ n1_ n2_; (try clear hb); (try clear hb2); (try clear hk); (try clear hi)) | ((with_reducible refine gate_dst (N := 8) rfl ?_); refine box_event ?hg (N := 8) ?hd (cs := #[.int .u32 0, .int .u32 0, .int .u64 0, .int .u64 0, .int .u64 0, .int .u64 0, .int .u64 0, .int .u64 0, .int .u64 0]) (t := 26) ?hr ?_; (case hd => rfl); (case hg => rfl); (case hr => first | (go_simp; done) | (go_simp; rfl)); intro gb359 hg w72 hbox hb; have n0_ := Aside0.mk (blk_below (g := gb336) (o := .cells #[.int .u32 a0_0, .int .u32 a0_1, .int .u64 a0_2, .int .u64 a0_3, .int .u64 a0_4, .int .u64 a0_5, .int .u64 a0_6, .int .u64 a0_7, .int .u64 a0_8] 26 (0, 0)) (by (with_reducible repeat (first | refine blk_drewN ?_ _ | refine blk_drew ?_ | refine blk_alloc ?_ _)); exact BK336.out) hb); have n1_ := Aside0.mk (blk_below (g := gb348) (o := .cells #[.int .u32 t338, .int .u32 t339, .int .u64 t340, .int .u64 t341, .int .u64 t342, .int .u64 t343, .int .u64 t344, .int .u64 t345, .int .u64 t346] 26 (0, 0)) (by (with_reducible repeat (first | refine blk_drewN ?_ _ | refine blk_drew ?_ | refine blk_alloc ?_ _)); exact BK348.out) hb); have n2_ := Aside0.mk (below_step (by repeat (first | (with_reducible first | exact HB.out | apply below_alloc | apply pw_below_drewN | apply below_drew1 | refine below_set ?_ GE336.out | refine below_set ?_ GE348.out) | exact HB.out)) hb); have n3_ := Aside0.mk (hbox); have n4_ := Aside0.mk ((by rw [hg]; exact (below_size (by repeat (first | (with_reducible first | exact HB.out | apply below_alloc | apply pw_below_drewN | apply below_drew1 | refine below_set ?_ GE336.out | refine below_set ?_ GE348.out) | exact HB.out))) : w.heap.size ≤ gb359)); have n5_ := Aside0.mk ((by rw [hg]; exact (below_size (by repeat (first | (with_reducible first | exact HB.out | apply below_alloc | apply pw_below_drewN | apply below_drew1 | refine below_set ?_ GE336.out | refine below_set ?_ GE348.out) | exact HB.out))) : w.heap.size ≤ gb359)); have n6_ := Aside0.mk ((by rw [hg]; exact Nat.ne_of_lt (blk_lt (g := gb336) (o := .cells #[.int .u32 a0_0, .int .u32 a0_1, .int .u64 a0_2, .int .u64 a0_3, .int .u64 a0_4, .int .u64 a0_5, .int .u64 a0_6, .int .u64 a0_7, .int .u64 a0_8] 26 (0, 0)) (by (with_reducible repeat (first | refine blk_drewN ?_ _ | refine blk_drew ?_ | refine blk_alloc ?_ _)); exact BK336.out)) : gb336 ≠ gb359)); have n7_ := Aside0.mk ((by rw [hg]; exact Nat.ne_of_gt (blk_lt (g := gb336) (o := .cells #[.int .u32 a0_0, .int .u32 a0_1, .int .u64 a0_2, .int .u64 a0_3, .int .u64 a0_4, .int .u64 a0_5, .int .u64 a0_6, .int .u64 a0_7, .int .u64 a0_8] 26 (0, 0)) (by (with_reducible repeat (first | refine blk_drewN ?_ _ | refine blk_drew ?_ | refine blk_alloc ?_ _)); exact BK336.out)) : gb359 ≠ gb336)); have n8_ := Aside0.mk ((by rw [hg]; exact Nat.ne_of_lt (blk_lt (g := gb348) (o := .cells #[.int .u32 t338, .int .u32 t339, .int .u64 t340, .int .u64 t341, .int .u64 t342, .int .u64 t343, .int .u64 t344, .int .u64 t345, .int .u64 t346] 26 (0, 0)) (by (with_reducible repeat (first | refine blk_drewN ?_ _ | refine blk_drew ?_ | refine blk_alloc ?_ _)); exact BK348.out)) : gb348 ≠ gb359)); have n9_ := Aside0.mk ((by rw [hg]; exact Nat.ne_of_gt (blk_lt (g := gb348) (o := .cells #[.int .u32 t338, .int .u32 t339, .int .u64 t340, .int .u64 t341, .int .u64 t342, .int .u64 t343, .int .u64 t344, .int .u64 t345, .int .u64 t346] 26 (0, 0)) (by (with_reducible repeat (first | refine blk_drewN ?_ _ | refine blk_drew ?_ | refine blk_alloc ?_ _)); exact BK348.out)) : gb359 ≠ gb348)); clear BK336; clear BK348; clear HB; have BK336 := n0_; have BK348 := n1_; have HB := n2_; have BK359 := n3_; have GW359 := n4_; have GE359 := n5_; have NB336_359 := n6_; have NB359_336 := n7_; have NB348_359 := n8_; have NB359_348 := n9_; clear n0_ n1_ n2_ n3_ n4_ n5_ n6_ n7_ n8_ n9_; clear hb hbox hg; have hnb73 := NB359_336.out; have hnc73 := NB336_359.out; have hnb74 := NB359_348.out; have hnc74 := NB348_359.out; have hcz75_0 : w72.cell? ⟨gb359, 0, none⟩ = some (.int .u32 0) := (blk_cell BK359.out 0).trans rfl; have hcz75_1 : w72.cell? ⟨gb359, 1, none⟩ = some (.int .u32 0) := (blk_cell BK359.out 1).trans rfl; have hcz75_2 : w72.cell? ⟨gb359, 2, none⟩ = some (.int .u64 0) := (blk_cell BK359.out 2).trans rfl; have hcz75_3 : w72.cell? ⟨gb359, 3, none⟩ = some (.int .u64 0) := (blk_cell BK359.out 3).trans rfl; have hcz75_4 : w72.cell? ⟨gb359, 4, none⟩ = some (.int .u64 0) := (blk_cell BK359.out 4).trans rfl; have hcz75_5 : w72.cell? ⟨gb359, 5, none⟩ = some (.int .u64 0) := (blk_cell BK359.out 5).trans rfl; have hcz75_6 : w72.cell? ⟨gb359, 6, none⟩ = some (.int .u64 0) := (blk_cell BK359.out 6).trans rfl; have hcz75_7 : w72.cell? ⟨gb359, 7, none⟩ = some (.int .u64 0) := (blk_cell BK359.out 7).trans rfl; have hcz75_8 : w72.cell? ⟨gb359, 8, none⟩ = some (.int .u64 0) := (blk_cell BK359.out 8).trans rfl; have hfz75_0 := blk_frozen BK359.out 0; have hfz75_1 := blk_frozen BK359.out 1; have hfz75_2 := blk_frozen BK359.out 2; have hfz75_3 := blk_frozen BK359.out 3; have hfz75_4 := blk_frozen BK359.out 4; have hfz75_5 := blk_frozen BK359.out 5; have hfz75_6 := blk_frozen BK359.out 6; have hfz75_7 := blk_frozen BK359.out 7; have hfz75_8 := blk_frozen BK359.out 8))
  have n0_ : Aside0 ((((((((((w72.setCell ⟨gb359, 0, none⟩ (.int .u32 t349)).setCell ⟨gb359, 1, none⟩ (.int .u32 t350)).setCell ⟨gb359, 2, none⟩ (.int .u64 t351)).setCell ⟨gb359, 3, none⟩ (.int .u64 t352)).setCell ⟨gb359, 4, none⟩ (.int .u64 t353)).setCell ⟨gb359, 5, none⟩ (.int .u64 t354)).setCell ⟨gb359, 6, none⟩ (.int .u64 t355)).setCell ⟨gb359, 7, none⟩ (.int .u64 t356)).setCell ⟨gb359, 8, none⟩ (.int .u64 t357)).heap[gb336]? = some (.cells #[.int .u32 a0_0, .int .u32 a0_1, .int .u64 a0_2, .int .u64 a0_3, .int .u64 a0_4, .int .u64 a0_5, .int .u64 a0_6, .int .u64 a0_7, .int .u64 a0_8] 26 (0, 0))) := ⟨by (with_reducible repeat (first | refine blk_drewN ?_ _ | refine blk_drew ?_ | refine blk_alloc ?_ _)); refine blk_far ?_ NB336_359.out _; (with_reducible repeat (first | refine blk_drewN ?_ _ | refine blk_drew ?_ | refine blk_alloc ?_ _)); refine blk_far ?_ NB336_359.out _; (with_reducible repeat (first | refine blk_drewN ?_ _ | refine blk_drew ?_ | refine blk_alloc ?_ _)); refine blk_far ?_ NB336_359.out _; (with_reducible repeat (first | refine blk_drewN ?_ _ | refine blk_drew ?_ | refine blk_alloc ?_ _)); refine blk_far ?_ NB336_359.out _; (with_reducible repeat (first | refine blk_drewN ?_ _ | refine blk_drew ?_ | refine blk_alloc ?_ _)); refine blk_far ?_ NB336_359.out _; (with_reducible repeat (first | refine blk_drewN ?_ _ | refine blk_drew ?_ | refine blk_alloc ?_ _)); refine blk_far ?_ NB336_359.out _; (with_reducible repeat (first | refine blk_drewN ?_ _ | refine blk_drew ?_ | refine blk_alloc ?_ _)); refine blk_far ?_ NB336_359.out _; (with_reducible repeat (first | refine blk_drewN ?_ _ | refine blk_drew ?_ | refine blk_alloc ?_ _)); refine blk_far ?_ NB336_359.out _; (with_reducible repeat (first | refine blk_drewN ?_ _ | refine blk_drew ?_ | refine blk_alloc ?_ _)); refine blk_far ?_ NB336_359.out _; (with_reducible repeat (first | refine blk_drewN ?_ _ | refine blk_drew ?_ | refine blk_alloc ?_ _)); exact BK336.out⟩
  have n1_ : Aside0 ((((((((((w72.setCell ⟨gb359, 0, none⟩ (.int .u32 t349)).setCell ⟨gb359, 1, none⟩ (.int .u32 t350)).setCell ⟨gb359, 2, none⟩ (.int .u64 t351)).setCell ⟨gb359, 3, none⟩ (.int .u64 t352)).setCell ⟨gb359, 4, none⟩ (.int .u64 t353)).setCell ⟨gb359, 5, none⟩ (.int .u64 t354)).setCell ⟨gb359, 6, none⟩ (.int .u64 t355)).setCell ⟨gb359, 7, none⟩ (.int .u64 t356)).setCell ⟨gb359, 8, none⟩ (.int .u64 t357)).heap[gb348]? = some (.cells #[.int .u32 t338, .int .u32 t339, .int .u64 t340, .int .u64 t341, .int .u64 t342, .int .u64 t343, .int .u64 t344, .int .u64 t345, .int .u64 t346] 26 (0, 0))) := ⟨by (with_reducible repeat (first | refine blk_drewN ?_ _ | refine blk_drew ?_ | refine blk_alloc ?_ _)); refine blk_far ?_ NB348_359.out _; (with_reducible repeat (first | refine blk_drewN ?_ _ | refine blk_drew ?_ | refine blk_alloc ?_ _)); refine blk_far ?_ NB348_359.out _; (with_reducible repeat (first | refine blk_drewN ?_ _ | refine blk_drew ?_ | refine blk_alloc ?_ _)); refine blk_far ?_ NB348_359.out _; (with_reducible repeat (first | refine blk_drewN ?_ _ | refine blk_drew ?_ | refine blk_alloc ?_ _)); refine blk_far ?_ NB348_359.out _; (with_reducible repeat (first | refine blk_drewN ?_ _ | refine blk_drew ?_ | refine blk_alloc ?_ _)); refine blk_far ?_ NB348_359.out _; (with_reducible repeat (first | refine blk_drewN ?_ _ | refine blk_drew ?_ | refine blk_alloc ?_ _)); refine blk_far ?_ NB348_359.out _; (with_reducible repeat (first | refine blk_drewN ?_ _ | refine blk_drew ?_ | refine blk_alloc ?_ _)); refine blk_far ?_ NB348_359.out _; (with_reducible repeat (first | refine blk_drewN ?_ _ | refine blk_drew ?_ | refine blk_alloc ?_ _)); refine blk_far ?_ NB348_359.out _; (with_reducible repeat (first | refine blk_drewN ?_ _ | refine blk_drew ?_ | refine blk_alloc ?_ _)); refine blk_far ?_ NB348_359.out _; (with_reducible repeat (first | refine blk_drewN ?_ _ | refine blk_drew ?_ | refine blk_alloc ?_ _)); exact BK348.out⟩
  have n2_ : Aside0 ((((((((((w72.setCell ⟨gb359, 0, none⟩ (.int .u32 t349)).setCell ⟨gb359, 1, none⟩ (.int .u32 t350)).setCell ⟨gb359, 2, none⟩ (.int .u64 t351)).setCell ⟨gb359, 3, none⟩ (.int .u64 t352)).setCell ⟨gb359, 4, none⟩ (.int .u64 t353)).setCell ⟨gb359, 5, none⟩ (.int .u64 t354)).setCell ⟨gb359, 6, none⟩ (.int .u64 t355)).setCell ⟨gb359, 7, none⟩ (.int .u64 t356)).setCell ⟨gb359, 8, none⟩ (.int .u64 t357)).heap[gb359]? = some (.cells #[.int .u32 t349, .int .u32 t350, .int .u64 t351, .int .u64 t352, .int .u64 t353, .int .u64 t354, .int .u64 t355, .int .u64 t356, .int .u64 t357] 26 (0, 0))) := ⟨by (with_reducible repeat (first | refine blk_drewN ?_ _ | refine blk_drew ?_ | refine blk_alloc ?_ _)); refine blk_put (cs := #[.int .u32 t349, .int .u32 t350, .int .u64 t351, .int .u64 t352, .int .u64 t353, .int .u64 t354, .int .u64 t355, .int .u64 t356, .int .u64 0]) ?_ 8 _ rfl; (with_reducible repeat (first | refine blk_drewN ?_ _ | refine blk_drew ?_ | refine blk_alloc ?_ _)); refine blk_put (cs := #[.int .u32 t349, .int .u32 t350, .int .u64 t351, .int .u64 t352, .int .u64 t353, .int .u64 t354, .int .u64 t355, .int .u64 0, .int .u64 0]) ?_ 7 _ rfl; (with_reducible repeat (first | refine blk_drewN ?_ _ | refine blk_drew ?_ | refine blk_alloc ?_ _)); refine blk_put (cs := #[.int .u32 t349, .int .u32 t350, .int .u64 t351, .int .u64 t352, .int .u64 t353, .int .u64 t354, .int .u64 0, .int .u64 0, .int .u64 0]) ?_ 6 _ rfl; (with_reducible repeat (first | refine blk_drewN ?_ _ | refine blk_drew ?_ | refine blk_alloc ?_ _)); refine blk_put (cs := #[.int .u32 t349, .int .u32 t350, .int .u64 t351, .int .u64 t352, .int .u64 t353, .int .u64 0, .int .u64 0, .int .u64 0, .int .u64 0]) ?_ 5 _ rfl; (with_reducible repeat (first | refine blk_drewN ?_ _ | refine blk_drew ?_ | refine blk_alloc ?_ _)); refine blk_put (cs := #[.int .u32 t349, .int .u32 t350, .int .u64 t351, .int .u64 t352, .int .u64 0, .int .u64 0, .int .u64 0, .int .u64 0, .int .u64 0]) ?_ 4 _ rfl; (with_reducible repeat (first | refine blk_drewN ?_ _ | refine blk_drew ?_ | refine blk_alloc ?_ _)); refine blk_put (cs := #[.int .u32 t349, .int .u32 t350, .int .u64 t351, .int .u64 0, .int .u64 0, .int .u64 0, .int .u64 0, .int .u64 0, .int .u64 0]) ?_ 3 _ rfl; (with_reducible repeat (first | refine blk_drewN ?_ _ | refine blk_drew ?_ | refine blk_alloc ?_ _)); refine blk_put (cs := #[.int .u32 t349, .int .u32 t350, .int .u64 0, .int .u64 0, .int .u64 0, .int .u64 0, .int .u64 0, .int .u64 0, .int .u64 0]) ?_ 2 _ rfl; (with_reducible repeat (first | refine blk_drewN ?_ _ | refine blk_drew ?_ | refine blk_alloc ?_ _)); refine blk_put (cs := #[.int .u32 t349, .int .u32 0, .int .u64 0, .int .u64 0, .int .u64 0, .int .u64 0, .int .u64 0, .int .u64 0, .int .u64 0]) ?_ 1 _ rfl; (with_reducible repeat (first | refine blk_drewN ?_ _ | refine blk_drew ?_ | refine blk_alloc ?_ _)); refine blk_put (cs := #[.int .u32 0, .int .u32 0, .int .u64 0, .int .u64 0, .int .u64 0, .int .u64 0, .int .u64 0, .int .u64 0, .int .u64 0]) ?_ 0 _ rfl; (with_reducible repeat (first | refine blk_drewN ?_ _ | refine blk_drew ?_ | refine blk_alloc ?_ _)); exact BK359.out⟩
  have n3_ : Aside0 (Below w.heap.size w (((((((((w72.setCell ⟨gb359, 0, none⟩ (.int .u32 t349)).setCell ⟨gb359, 1, none⟩ (.int .u32 t350)).setCell ⟨gb359, 2, none⟩ (.int .u64 t351)).setCell ⟨gb359, 3, none⟩ (.int .u64 t352)).setCell ⟨gb359, 4, none⟩ (.int .u64 t353)).setCell ⟨gb359, 5, none⟩ (.int .u64 t354)).setCell ⟨gb359, 6, none⟩ (.int .u64 t355)).setCell ⟨gb359, 7, none⟩ (.int .u64 t356)).setCell ⟨gb359, 8, none⟩ (.int .u64 t357))) := ⟨by repeat (first | (with_reducible first | exact HB.out | apply below_alloc | apply pw_below_drewN | apply below_drew1 | refine below_set ?_ GE336.out | refine below_set ?_ GE348.out | refine below_set ?_ GE359.out) | exact HB.out)⟩
  (try clear BK336)
  (try clear BK348)
  (try clear BK359)
  (try clear HB)
  generalize (((((((((w72.setCell ⟨gb359, 0, none⟩ (.int .u32 t349)).setCell ⟨gb359, 1, none⟩ (.int .u32 t350)).setCell ⟨gb359, 2, none⟩ (.int .u64 t351)).setCell ⟨gb359, 3, none⟩ (.int .u64 t352)).setCell ⟨gb359, 4, none⟩ (.int .u64 t353)).setCell ⟨gb359, 5, none⟩ (.int .u64 t354)).setCell ⟨gb359, 6, none⟩ (.int .u64 t355)).setCell ⟨gb359, 7, none⟩ (.int .u64 t356)).setCell ⟨gb359, 8, none⟩ (.int .u64 t357)) = w76 at n0_ n1_ n2_ n3_ ⊢
  have BK336 := n0_
  have BK348 := n1_
  have BK359 := n2_
  have HB := n3_
  clear n0_ n1_ n2_ n3_
  have n0_ := Aside0.mk (blk_drew BK336.out)
  have n1_ := Aside0.mk (blk_drew BK348.out)
  have n2_ := Aside0.mk (blk_drew BK359.out)
  have n3_ := Aside0.mk (below_drew1 HB.out)
  clear BK336
  clear BK348
  clear BK359
  clear HB
  have BK336 := n0_
  have BK348 := n1_
  have BK359 := n2_
  have HB := n3_
  clear n0_ n1_ n2_ n3_
  refine start_ (n := 21) (S := fun w' => True) (ds := []) #[false, false, false, false, false, false, false, false, false, false, false, false, false, false, false, false, false, false, false, false, false] (by kernel_rfl) rfl rfl trivial (fun hHeld => ?_); refine with_tabW fairleadlaw04_DataBytes.tab4 fairleadlaw04_DataBytes.bits4 (fun HT_ HW_ => ?_)
  generalize w76.drew = w77 at BK336 BK348 BK359 HB hHeld ⊢
  refine pure_ (i := 0) (N := some 21) (v := ?_) (a' := ?_) #[true, false, false, false, false, false, false, false, false, false, false, false, false, false, false, false, false, false, false, false, false] rfl rfl (any_of HT_.out (by kernel_rfl)) (fun _ _ _ h => h) (Or.inl ⟨by rfl, ?_⟩) ?_ ?_
  rotate_left
  ·intro w'
   go_simp
   with_reducible rfl
  rotate_left
  ·simp only [Act.put, List.setIfInBounds_toArray, List.set_cons_zero, List.set_cons_succ, i64_w, i32_w]
   rfl
  refine pure_ (i := 1) (N := some 22) (v := ?_) (a' := ?_) #[true, true, false, false, false, false, false, false, false, false, false, false, false, false, false, false, false, false, false, false, false] rfl rfl (any_of HT_.out (by kernel_rfl)) (fun _ _ _ h => h) (Or.inl ⟨by rfl, ?_⟩) ?_ ?_
  rotate_left
  ·intro w'
   go_simp
   with_reducible rfl
  rotate_left
  ·simp only [Act.put, List.setIfInBounds_toArray, List.set_cons_zero, List.set_cons_succ, i64_w, i32_w]
   rfl
  refine pure_ (i := 2) (N := some 23) (v := undef) (a' := ?_) #[true, true, true, false, false, false, false, false, false, false, false, false, false, false, false, false, false, false, false, false, false] rfl rfl (any_of HT_.out (by kernel_rfl)) (fun _ _ _ h => h) (Or.inr ⟨by rfl, rfl⟩) ?_ ?_
  rotate_left
  ·simp only [Act.put, List.setIfInBounds_toArray, List.set_cons_zero, List.set_cons_succ, i64_w, i32_w]
   rfl
  refine pure_ (i := 3) (N := some 24) (v := undef) (a' := ?_) #[true, true, true, true, false, false, false, false, false, false, false, false, false, false, false, false, false, false, false, false, false] rfl rfl (any_of HT_.out (by kernel_rfl)) (fun _ _ _ h => h) (Or.inr ⟨by rfl, rfl⟩) ?_ ?_
  rotate_left
  ·simp only [Act.put, List.setIfInBounds_toArray, List.set_cons_zero, List.set_cons_succ, i64_w, i32_w]
   rfl
  refine pure_ (i := 4) (N := some 25) (v := undef) (a' := ?_) #[true, true, true, true, true, false, false, false, false, false, false, false, false, false, false, false, false, false, false, false, false] rfl rfl (any_of HT_.out (by kernel_rfl)) (fun _ _ _ h => h) (Or.inr ⟨by rfl, rfl⟩) ?_ ?_
  rotate_left
  ·simp only [Act.put, List.setIfInBounds_toArray, List.set_cons_zero, List.set_cons_succ, i64_w, i32_w]
   rfl
  refine pure_ (i := 5) (N := some 26) (v := undef) (a' := ?_) #[true, true, true, true, true, true, false, false, false, false, false, false, false, false, false, false, false, false, false, false, false] rfl rfl (any_of HT_.out (by kernel_rfl)) (fun _ _ _ h => h) (Or.inr ⟨by rfl, rfl⟩) ?_ ?_
  rotate_left
  ·simp only [Act.put, List.setIfInBounds_toArray, List.set_cons_zero, List.set_cons_succ, i64_w, i32_w]
   rfl
  refine pure_ (i := 6) (N := some 27) (v := undef) (a' := ?_) #[true, true, true, true, true, true, true, false, false, false, false, false, false, false, false, false, false, false, false, false, false] rfl rfl (any_of HT_.out (by kernel_rfl)) (fun _ _ _ h => h) (Or.inr ⟨by rfl, rfl⟩) ?_ ?_
  rotate_left
  ·simp only [Act.put, List.setIfInBounds_toArray, List.set_cons_zero, List.set_cons_succ, i64_w, i32_w]
   rfl
  refine pure_ (i := 7) (N := some 28) (v := undef) (a' := ?_) #[true, true, true, true, true, true, true, true, false, false, false, false, false, false, false, false, false, false, false, false, false] rfl rfl (any_of HT_.out (by kernel_rfl)) (fun _ _ _ h => h) (Or.inr ⟨by rfl, rfl⟩) ?_ ?_
  rotate_left
  ·simp only [Act.put, List.setIfInBounds_toArray, List.set_cons_zero, List.set_cons_succ, i64_w, i32_w]
   rfl
  refine pure_ (i := 8) (N := some 29) (v := undef) (a' := ?_) #[true, true, true, true, true, true, true, true, true, false, false, false, false, false, false, false, false, false, false, false, false] rfl rfl (any_of HT_.out (by kernel_rfl)) (fun _ _ _ h => h) (Or.inr ⟨by rfl, rfl⟩) ?_ ?_
  rotate_left
  ·simp only [Act.put, List.setIfInBounds_toArray, List.set_cons_zero, List.set_cons_succ, i64_w, i32_w]
   rfl
  refine pure_ (i := 9) (N := some 30) (v := ?_) (a' := ?_) #[true, true, true, true, true, true, true, true, true, true, false, false, false, false, false, false, false, false, false, false, false] rfl rfl (any_of HT_.out (by kernel_rfl)) (fun _ _ _ h => h) (Or.inl ⟨by rfl, ?_⟩) ?_ ?_
  rotate_left
  ·intro w'
   go_simp
   with_reducible rfl
  rotate_left
  ·simp only [Act.put, List.setIfInBounds_toArray, List.set_cons_zero, List.set_cons_succ, i64_w, i32_w]
   rfl
  refine pure_ (i := 10) (N := some 31) (v := ?_) (a' := ?_) #[true, true, true, true, true, true, true, true, true, true, true, false, false, false, false, false, false, false, false, false, false] rfl rfl (any_of HT_.out (by kernel_rfl)) (fun _ _ _ h => h) (Or.inl ⟨by rfl, ?_⟩) ?_ ?_
  rotate_left
  ·intro w'
   go_simp
   with_reducible rfl
  rotate_left
  ·simp only [Act.put, List.setIfInBounds_toArray, List.set_cons_zero, List.set_cons_succ, i64_w, i32_w]
   rfl
  refine pure_ (i := 11) (N := some 32) (v := undef) (a' := ?_) #[true, true, true, true, true, true, true, true, true, true, true, true, false, false, false, false, false, false, false, false, false] rfl rfl (any_of HT_.out (by kernel_rfl)) (fun _ _ _ h => h) (Or.inr ⟨by rfl, rfl⟩) ?_ ?_
  rotate_left
  ·simp only [Act.put, List.setIfInBounds_toArray, List.set_cons_zero, List.set_cons_succ, i64_w, i32_w]
   rfl
  refine pure_ (i := 12) (N := some 33) (v := undef) (a' := ?_) #[true, true, true, true, true, true, true, true, true, true, true, true, true, false, false, false, false, false, false, false, false] rfl rfl (any_of HT_.out (by kernel_rfl)) (fun _ _ _ h => h) (Or.inr ⟨by rfl, rfl⟩) ?_ ?_
  rotate_left
  ·simp only [Act.put, List.setIfInBounds_toArray, List.set_cons_zero, List.set_cons_succ, i64_w, i32_w]
   rfl
  refine pure_ (i := 13) (N := some 34) (v := undef) (a' := ?_) #[true, true, true, true, true, true, true, true, true, true, true, true, true, true, false, false, false, false, false, false, false] rfl rfl (any_of HT_.out (by kernel_rfl)) (fun _ _ _ h => h) (Or.inr ⟨by rfl, rfl⟩) ?_ ?_
  rotate_left
  ·simp only [Act.put, List.setIfInBounds_toArray, List.set_cons_zero, List.set_cons_succ, i64_w, i32_w]
   rfl
  refine pure_ (i := 14) (N := some 35) (v := ?_) (a' := ?_) #[true, true, true, true, true, true, true, true, true, true, true, true, true, true, true, false, false, false, false, false, false] rfl rfl (any_of HT_.out (by kernel_rfl)) (fun _ _ _ h => h) (Or.inl ⟨by rfl, ?_⟩) ?_ ?_
  rotate_left
  ·intro w'
   go_simp
   with_reducible rfl
  rotate_left
  ·simp only [Act.put, List.setIfInBounds_toArray, List.set_cons_zero, List.set_cons_succ, i64_w, i32_w]
   rfl
  refine pure_ (i := 15) (N := some 36) (v := ?_) (a' := ?_) #[true, true, true, true, true, true, true, true, true, true, true, true, true, true, true, true, false, false, false, false, false] rfl rfl (any_of HT_.out (by kernel_rfl)) (fun _ _ _ h => h) (Or.inl ⟨by rfl, ?_⟩) ?_ ?_
  rotate_left
  ·intro w'
   go_simp
   with_reducible rfl
  rotate_left
  ·simp only [Act.put, List.setIfInBounds_toArray, List.set_cons_zero, List.set_cons_succ, i64_w, i32_w]
   rfl
  refine pure_ (i := 16) (N := some 37) (v := undef) (a' := ?_) #[true, true, true, true, true, true, true, true, true, true, true, true, true, true, true, true, true, false, false, false, false] rfl rfl (any_of HT_.out (by kernel_rfl)) (fun _ _ _ h => h) (Or.inr ⟨by rfl, rfl⟩) ?_ ?_
  rotate_left
  ·simp only [Act.put, List.setIfInBounds_toArray, List.set_cons_zero, List.set_cons_succ, i64_w, i32_w]
   rfl
  refine pure_ (i := 17) (N := some 38) (v := undef) (a' := ?_) #[true, true, true, true, true, true, true, true, true, true, true, true, true, true, true, true, true, true, false, false, false] rfl rfl (any_of HT_.out (by kernel_rfl)) (fun _ _ _ h => h) (Or.inr ⟨by rfl, rfl⟩) ?_ ?_
  rotate_left
  ·simp only [Act.put, List.setIfInBounds_toArray, List.set_cons_zero, List.set_cons_succ, i64_w, i32_w]
   rfl
  refine pure_ (i := 18) (N := some 39) (v := undef) (a' := ?_) #[true, true, true, true, true, true, true, true, true, true, true, true, true, true, true, true, true, true, true, false, false] rfl rfl (any_of HT_.out (by kernel_rfl)) (fun _ _ _ h => h) (Or.inr ⟨by rfl, rfl⟩) ?_ ?_
  rotate_left
  ·simp only [Act.put, List.setIfInBounds_toArray, List.set_cons_zero, List.set_cons_succ, i64_w, i32_w]
   rfl
  refine pure_ (i := 19) (N := some 40) (v := ?_) (a' := ?_) #[true, true, true, true, true, true, true, true, true, true, true, true, true, true, true, true, true, true, true, true, false] rfl rfl (any_of HT_.out (by kernel_rfl)) (fun _ _ _ h => h) (Or.inl ⟨by rfl, ?_⟩) ?_ ?_
  rotate_left
  ·intro w'
   go_simp
   with_reducible rfl
  rotate_left
  ·simp only [Act.put, List.setIfInBounds_toArray, List.set_cons_zero, List.set_cons_succ, i64_w, i32_w]
   rfl
  refine pure_ (i := 20) (N := some 4) (v := ?_) (a' := ?_) #[true, true, true, true, true, true, true, true, true, true, true, true, true, true, true, true, true, true, true, true, true] rfl rfl (any_of HT_.out (by kernel_rfl)) (fun _ _ _ h => h) (Or.inl ⟨by rfl, ?_⟩) ?_ ?_
  rotate_left
  ·intro w'
   go_simp
   with_reducible rfl
  rotate_left
  ·simp only [Act.put, List.setIfInBounds_toArray, List.set_cons_zero, List.set_cons_succ, i64_w, i32_w]
   rfl
  refine done_ (done_of HT_.out (by kernel_rfl)) ?_
  try go_wp2
  go_ret
  exact ⟨by first | rfl | (simp [errW_none, errW_some] <;> rfl) | (simp [*, errW_none, errW_some] <;> rfl), by repeat (first | (with_reducible first | exact HB.out | apply below_alloc | apply pw_below_drewN | apply below_drew1 | refine below_set ?_ GE336.out | refine below_set ?_ GE348.out | refine below_set ?_ GE359.out) | exact HB.out)⟩

/-- What is to be shown of fairleadlaw04_DataBytes, without Go and memory. -/
def fairleadlaw04_DataBytes.Pure : Prop := ∀ (a0_0 : Int) (a0_1 : Int) (a0_2 : Int) (a0_3 : Int) (a0_4 : Int) (a0_5 : Int) (a0_6 : Int) (a0_7 : Int) (a0_8 : Int) (l1 : List Int), ((0 ≤ a0_0 ∧ a0_0 ≤ 4294967295) ∧ (0 ≤ a0_1 ∧ a0_1 ≤ 4294967295) ∧ (0 ≤ a0_2 ∧ a0_2 ≤ 18446744073709551615) ∧ ((0 ≤ a0_3 ∧ a0_3 ≤ 18446744073709551615) ∧ (0 ≤ a0_4 ∧ a0_4 ≤ 18446744073709551615) ∧ (0 ≤ a0_5 ∧ a0_5 ≤ 18446744073709551615) ∧ (0 ≤ a0_6 ∧ a0_6 ≤ 18446744073709551615) ∧ (0 ≤ a0_7 ∧ a0_7 ≤ 18446744073709551615) ∧ (0 ≤ a0_8 ∧ a0_8 ≤ 18446744073709551615))) → (l1.length ≤ 9223372036854775807 ∧ ∀ x ∈ l1, 0 ≤ x ∧ x ≤ 255) → ∃ k, fairleadlaw04_DataBytes.f k a0_0 a0_1 a0_2 a0_3 a0_4 a0_5 a0_6 a0_7 a0_8 l1 = some true

end Go.Proofs.Ytkbdbphcdehmhaa.M
