-- Laid by a program (wip/tools/myprint.py) out of the loaded program's own print: for each Go function a Lean function and the proof of its contract.
import Derived.Test.YtkbdbphcdehmhaaMx0
import Derived.Test.YtkbdbphcdehmhaaMx5
namespace Go.Proofs.Ytkbdbphcdehmhaa.M
open Go.RowKit Go.Proofs.YtkbdbphcdehmhaaW.PrintWords Go.Proofs.YtkbdbphcdehmhaaW.PrintLast Go.Proofs.YtkbdbphcdehmhaaW.PrintMore
attribute [local go_sem] max2_int min2_int max_two min_two max_three min_three max_four min_four   -- for this text's walks alone
set_option linter.unusedVariables false
set_option linter.unusedSimpArgs false

/-! ### fairleadref04_Bytes: function 17 -/
def fairleadref04_Bytes.l0 : Nat → List Int → Int → Int → Int → Int → Int → Int → Int → Int → Int → Int → Option (List Int)
 | 0, _, _, _, _, _, _, _, _, _, _, _ => none
 | k + 1, x3, x4, x179000, x179001, x179002, x179003, x179004, x179005, x179006, x179007, x179008 => if x4 < 6 then (if x4 = 0 then ((fairleadref04_low.f k x179003 8).bind fun t194 => (if x3.length + t194.length < 140737488355328 then (fairleadref04_Bytes.l0 k (x3 ++ t194) 1 x179000 x179001 x179002 x179003 x179004 x179005 x179006 x179007 x179008) else (none))) else (if x4 = 1 then ((fairleadref04_low.f k x179004 8).bind fun t200 => (if x3.length + t200.length < 140737488355328 then (fairleadref04_Bytes.l0 k (x3 ++ t200) 2 x179000 x179001 x179002 x179003 x179004 x179005 x179006 x179007 x179008) else (none))) else (if x4 = 2 then ((fairleadref04_low.f k x179005 8).bind fun t206 => (if x3.length + t206.length < 140737488355328 then (fairleadref04_Bytes.l0 k (x3 ++ t206) 3 x179000 x179001 x179002 x179003 x179004 x179005 x179006 x179007 x179008) else (none))) else (if x4 = 3 then ((fairleadref04_low.f k x179006 8).bind fun t212 => (if x3.length + t212.length < 140737488355328 then (fairleadref04_Bytes.l0 k (x3 ++ t212) 4 x179000 x179001 x179002 x179003 x179004 x179005 x179006 x179007 x179008) else (none))) else (if x4 = 4 then ((fairleadref04_low.f k x179007 8).bind fun t218 => (if x3.length + t218.length < 140737488355328 then (fairleadref04_Bytes.l0 k (x3 ++ t218) 5 x179000 x179001 x179002 x179003 x179004 x179005 x179006 x179007 x179008) else (none))) else (if x4 = 5 then ((fairleadref04_low.f k x179008 8).bind fun t224 => (if x3.length + t224.length < 140737488355328 then (fairleadref04_Bytes.l0 k (x3 ++ t224) 6 x179000 x179001 x179002 x179003 x179004 x179005 x179006 x179007 x179008) else (none))) else (none))))))) else (some x3)
def fairleadref04_Bytes.f (k : Nat) (a0_0 : Int) (a0_1 : Int) (a0_2 : Int) (a0_3 : Int) (a0_4 : Int) (a0_5 : Int) (a0_6 : Int) (a0_7 : Int) (a0_8 : Int) : Option (List Int) := (fairleadref04_low.f k (IntKind.u64.wrap (a0_0)) 4).bind fun t179 => ((fairleadref04_low.f k (IntKind.u64.wrap (a0_1)) 4).bind fun t182 => (if t179.length + t182.length < 140737488355328 then ((some (t179 ++ t182 : List Int)).bind fun y185 => ((fairleadref04_low.f k a0_2 8).bind fun t188 => (if y185.length + t188.length < 140737488355328 then (fairleadref04_Bytes.l0 k (y185 ++ t188) 0 a0_0 a0_1 a0_2 a0_3 a0_4 a0_5 a0_6 a0_7 a0_8) else (none)))) else (none)))
theorem fairleadref04_Bytes.mono_l : ∀ k, (∀ y0 y1 y2 y3 y4 y5 y6 y7 y8 y9 y10, LeO (fairleadref04_Bytes.l0 k y0 y1 y2 y3 y4 y5 y6 y7 y8 y9 y10) (fairleadref04_Bytes.l0 (k + 1) y0 y1 y2 y3 y4 y5 y6 y7 y8 y9 y10))
 | 0 => fun _ _ _ _ _ _ _ _ _ _ _ r h => by simp [fairleadref04_Bytes.l0] at h
 | k + 1 => by
  have ih0 := fairleadref04_Bytes.mono_l k
  ·intro y0 y1 y2 y3 y4 y5 y6 y7 y8 y9 y10
   unfold fairleadref04_Bytes.l0
   repeat' first
   | (with_reducible exact ih0 _ _ _ _ _ _ _ _ _ _ _)
   | (with_reducible exact fairleadref04_low.mono _ _ _)
   | (with_reducible exact LeO.refl _)
   | (with_reducible exact LeO.none _)
   | (with_reducible refine LeO.ite ?_ ?_)
   | (with_reducible refine LeO.bind ?_ (fun _ => ?_))
   | exact ih0 _ _ _ _ _ _ _ _ _ _ _
   | exact fairleadref04_low.mono _ _ _
   | exact LeO.none _
   | refine LeO.ite ?_ ?_
   | refine LeO.bind ?_ (fun _ => ?_)
theorem fairleadref04_Bytes.mono : ∀ a0 a1 a2 a3 a4 a5 a6 a7 a8 k, LeO (fairleadref04_Bytes.f k a0 a1 a2 a3 a4 a5 a6 a7 a8) (fairleadref04_Bytes.f (k + 1) a0 a1 a2 a3 a4 a5 a6 a7 a8) := by
 intro a0 a1 a2 a3 a4 a5 a6 a7 a8 k
 have ih0 := fairleadref04_Bytes.mono_l k
 unfold fairleadref04_Bytes.f
 repeat' first
   | (with_reducible exact ih0 _ _ _ _ _ _ _ _ _ _ _)
   | (with_reducible exact fairleadref04_low.mono _ _ _)
   | (with_reducible exact LeO.refl _)
   | (with_reducible exact LeO.none _)
   | (with_reducible refine LeO.ite ?_ ?_)
   | (with_reducible refine LeO.bind ?_ (fun _ => ?_))
   | exact ih0 _ _ _ _ _ _ _ _ _ _ _
   | exact fairleadref04_low.mono _ _ _
   | exact LeO.none _
   | refine LeO.ite ?_ ?_
   | refine LeO.bind ?_ (fun _ => ?_)
def fairleadref04_Bytes.T1 : Bool × List (List Nat × List Nat) := (true, [([], []), ([0], [0]), ([1], [1]), ([2], [2]), ([], []), ([4], [4]), ([5], [5]), ([6, 3], [6]), ([3, 7, 7], [3, 7]), ([8, 8, 0, 1, 2, 3, 4, 5, 6, 7, 8], [8])])
def fairleadref04_Bytes.B1 : List Nat := [0, 1, 3, 7, 0, 16, 48, 127, 255, 511]
theorem fairleadref04_Bytes.tab1 : rtab .any (opsOf Try.f17 1) = fairleadref04_Bytes.T1 := by kernel_rfl
theorem fairleadref04_Bytes.bits1 : waitsOk fairleadref04_Bytes.T1.2 fairleadref04_Bytes.B1 = true := by kernel_rfl
set_option maxHeartbeats 8000000 in
set_option maxRecDepth 100000 in
theorem fairleadref04_Bytes.calls (k : Nat) (a0_0 : Int) (a0_1 : Int) (a0_2 : Int) (a0_3 : Int) (a0_4 : Int) (a0_5 : Int) (a0_6 : Int) (a0_7 : Int) (a0_8 : Int) (r : List Int) (w : World) (h : fairleadref04_Bytes.f k a0_0 a0_1 a0_2 a0_3 a0_4 a0_5 a0_6 a0_7 a0_8 = some r) :
  Calls Try.prog 17 #[.agg #[.int .u32 a0_0, .int .u32 a0_1, .int .u64 a0_2, .int .u64 a0_3, .int .u64 a0_4, .int .u64 a0_5, .int .u64 a0_6, .int .u64 a0_7, .int .u64 a0_8]] w fun e w' => ∃ v0_ : Value, e = .returned (v0_) ∧ Kd.R (Kd.int .u8) 5 w' w.heap.size (fun _ => True) v0_ r ∧ Below w.heap.size w w' := by
 have hu26 := Try.underlying26
 have HB := Aside0.mk (Below.refl w.heap.size w)
 have H : ((fairleadref04_low.f k (IntKind.u64.wrap (a0_0)) 4).bind fun t179 => ((fairleadref04_low.f k (IntKind.u64.wrap (a0_1)) 4).bind fun t182 => (if t179.length + t182.length < 140737488355328 then ((some (t179 ++ t182 : List Int)).bind fun y185 => ((fairleadref04_low.f k a0_2 8).bind fun t188 => (if y185.length + t188.length < 140737488355328 then (fairleadref04_Bytes.l0 k (y185 ++ t188) 0 a0_0 a0_1 a0_2 a0_3 a0_4 a0_5 a0_6 a0_7 a0_8) else (none)))) else (none)))) = some r := h
 clear h
 replace H := Option.bind_eq_some_iff.mp H
 obtain ⟨t179, A20, H⟩ := H
 replace H : ((fairleadref04_low.f k (IntKind.u64.wrap (a0_1)) 4).bind fun t182 => (if t179.length + t182.length < 140737488355328 then ((some (t179 ++ t182 : List Int)).bind fun y185 => ((fairleadref04_low.f k a0_2 8).bind fun t188 => (if y185.length + t188.length < 140737488355328 then (fairleadref04_Bytes.l0 k (y185 ++ t188) 0 a0_0 a0_1 a0_2 a0_3 a0_4 a0_5 a0_6 a0_7 a0_8) else (none)))) else (none))) = some r := H
 have A2 := Aside0.mk A20
 clear A20
 replace H := Option.bind_eq_some_iff.mp H
 obtain ⟨t182, A30, H⟩ := H
 replace H : (if t179.length + t182.length < 140737488355328 then ((some (t179 ++ t182 : List Int)).bind fun y185 => ((fairleadref04_low.f k a0_2 8).bind fun t188 => (if y185.length + t188.length < 140737488355328 then (fairleadref04_Bytes.l0 k (y185 ++ t188) 0 a0_0 a0_1 a0_2 a0_3 a0_4 a0_5 a0_6 a0_7 a0_8) else (none)))) else (none)) = some r := H
 have A3 := Aside0.mk A30
 clear A30
 by_cases c4 : t179.length + t182.length < 140737488355328
 ·rw [if_pos c4] at H
  have LMc4 := Aside0.mk c4
  clear c4
  obtain ⟨y185, hy185⟩ : ∃ y_ : List Int, y_ = (t179 ++ t182) := ⟨_, rfl⟩
  replace H : ((fairleadref04_low.f k a0_2 8).bind fun t188 => (if y185.length + t188.length < 140737488355328 then (fairleadref04_Bytes.l0 k (y185 ++ t188) 0 a0_0 a0_1 a0_2 a0_3 a0_4 a0_5 a0_6 a0_7 a0_8) else (none))) = some r := by first | (rw [hy185]; with_reducible exact H) | (have H2_ := (Option.bind_some _ _).symm.trans H; rw [hy185]; with_reducible exact H2_) | (have H2_ := (Option.bind_some _ _).symm.trans H; with_reducible exact H2_) | with_reducible exact H | (rw [hy185]; exact H) | exact H
  have Ny185 := Aside0.mk hy185
  clear hy185
  replace H := Option.bind_eq_some_iff.mp H
  obtain ⟨t188, A50, H⟩ := H
  replace H : (if y185.length + t188.length < 140737488355328 then (fairleadref04_Bytes.l0 k (y185 ++ t188) 0 a0_0 a0_1 a0_2 a0_3 a0_4 a0_5 a0_6 a0_7 a0_8) else (none)) = some r := H
  have A5 := Aside0.mk A50
  clear A50
  by_cases c6 : y185.length + t188.length < 140737488355328
  ·rw [if_pos c6] at H
   have LMc6 := Aside0.mk c6
   clear c6
   obtain ⟨y191, hy191⟩ : ∃ y_ : List Int, y_ = (y185 ++ t188) := ⟨_, rfl⟩
   replace H : (fairleadref04_Bytes.l0 k y191 0 a0_0 a0_1 a0_2 a0_3 a0_4 a0_5 a0_6 a0_7 a0_8) = some r := by first | (rw [hy191]; with_reducible exact H) | (have H2_ := (Option.bind_some _ _).symm.trans H; rw [hy191]; with_reducible exact H2_) | (have H2_ := (Option.bind_some _ _).symm.trans H; with_reducible exact H2_) | with_reducible exact H | (rw [hy191]; exact H) | exact H
   have Ny191 := Aside0.mk hy191
   clear hy191
   have H' := Aside0.mk H
   clear H
   go_enter Try.func17, Try.ntmps17
   try go_wp2_with (first | ((with_reducible refine gate_dst (N := 1) rfl ?_); refine box_event ?hg (N := 1) ?hd (cs := #[.int .u32 a0_0, .int .u32 a0_1, .int .u64 a0_2, .int .u64 a0_3, .int .u64 a0_4, .int .u64 a0_5, .int .u64 a0_6, .int .u64 a0_7, .int .u64 a0_8]) (t := 26) ?hr ?_; (case hd => rfl); (case hg => rfl); (case hr => first | (go_simp; done) | (go_simp; rfl)); intro gb178 hg w7 hbox hb; have n0_ := Aside0.mk (below_step (by repeat (first | (with_reducible first | exact HB.out | apply below_alloc | apply pw_below_drewN | apply below_drew1) | exact HB.out)) hb); have n1_ := Aside0.mk (hbox); have n2_ := Aside0.mk ((by rw [hg]; exact (below_size (by repeat (first | (with_reducible first | exact HB.out | apply below_alloc | apply pw_below_drewN | apply below_drew1) | exact HB.out))) : w.heap.size ≤ gb178)); have n3_ := Aside0.mk ((by rw [hg]; exact (below_size (by repeat (first | (with_reducible first | exact HB.out | apply below_alloc | apply pw_below_drewN | apply below_drew1) | exact HB.out))) : w.heap.size ≤ gb178)); clear HB; have HB := n0_; have BK178 := n1_; have GW178 := n2_; have GE178 := n3_; clear n0_ n1_ n2_ n3_; clear hb hbox hg))
   have n0_ := Aside0.mk (blk_drew BK178.out)
   have n1_ := Aside0.mk (below_drew1 HB.out)
   clear BK178
   clear HB
   have BK178 := n0_
   have HB := n1_
   clear n0_ n1_
   refine start_ (n := 10) (S := fun w' => w'.cell? ⟨gb178, 0, none⟩ = some (.int .u32 a0_0) ∧ w'.cell? ⟨gb178, 1, none⟩ = some (.int .u32 a0_1) ∧ w'.cell? ⟨gb178, 2, none⟩ = some (.int .u64 a0_2) ∧ w'.cell? ⟨gb178, 3, none⟩ = some (.int .u64 a0_3) ∧ w'.cell? ⟨gb178, 4, none⟩ = some (.int .u64 a0_4) ∧ w'.cell? ⟨gb178, 5, none⟩ = some (.int .u64 a0_5) ∧ w'.cell? ⟨gb178, 6, none⟩ = some (.int .u64 a0_6) ∧ w'.cell? ⟨gb178, 7, none⟩ = some (.int .u64 a0_7) ∧ w'.cell? ⟨gb178, 8, none⟩ = some (.int .u64 a0_8)) (ds := []) #[false, false, false, false, false, false, false, false, false, false] (by kernel_rfl) rfl rfl ⟨(blk_cell BK178.out 0).trans rfl, (blk_cell BK178.out 1).trans rfl, (blk_cell BK178.out 2).trans rfl, (blk_cell BK178.out 3).trans rfl, (blk_cell BK178.out 4).trans rfl, (blk_cell BK178.out 5).trans rfl, (blk_cell BK178.out 6).trans rfl, (blk_cell BK178.out 7).trans rfl, (blk_cell BK178.out 8).trans rfl⟩ (fun hHeld => ?_); refine with_tabW fairleadref04_Bytes.tab1 fairleadref04_Bytes.bits1 (fun HT_ HW_ => ?_)
   generalize w7.drew = w8 at BK178 HB hHeld ⊢
   refine pure_ (i := 0) (N := some 5) (v := ?_) (a' := ?_) #[true, false, false, false, false, false, false, false, false, false] rfl rfl (any_of HT_.out (by kernel_rfl)) (fun _ _ _ h => h) (Or.inl ⟨by rfl, ?_⟩) ?_ ?_
   rotate_left
   ·intro w'
    go_simp
    with_reducible rfl
   rotate_left
   ·simp only [Act.put, List.setIfInBounds_toArray, List.set_cons_zero, List.set_cons_succ, i64_w, i32_w]
    rfl
   refine pure_ (i := 4) (N := some 9) (v := ?_) (a' := ?_) #[true, false, false, false, true, false, false, false, false, false] rfl rfl (any_of HT_.out (by kernel_rfl)) (fun _ _ _ h => h) (Or.inl ⟨by rfl, ?_⟩) ?_ ?_
   rotate_left
   ·intro w'
    go_simp
    with_reducible rfl
   rotate_left
   ·simp only [Act.put, List.setIfInBounds_toArray, List.set_cons_zero, List.set_cons_succ, i64_w, i32_w]
    rfl
   refine take_ (i := 1) (N := some 6) (v := ?_) (a' := ?_) #[true, true, false, false, true, false, false, false, false, false] rfl rfl (take_ofW HT_.out HW_.out (by kernel_rfl)) (fun _ _ _ h => h) (Or.inl ⟨by rfl, ?_⟩) hHeld ?_ ?_
   rotate_left
   ·rintro w' ⟨s0, s1, s2, s3, s4, s5, s6, s7, s8⟩
    go_simp
    with_reducible rfl
   rotate_left
   ·simp only [Act.put, List.setIfInBounds_toArray, List.set_cons_zero, List.set_cons_succ, i64_w, i32_w]
    rfl
   refine pure_ (i := 2) (N := some 7) (v := ?_) (a' := ?_) #[true, true, true, false, true, false, false, false, false, false] rfl rfl (any_of HT_.out (by kernel_rfl)) (fun _ _ _ h => h) (Or.inl ⟨by rfl, ?_⟩) ?_ ?_
   rotate_left
   ·intro w'
    go_simp
    with_reducible rfl
   rotate_left
   ·simp only [Act.put, List.setIfInBounds_toArray, List.set_cons_zero, List.set_cons_succ, i64_w, i32_w]
    rfl
   refine take_ (i := 5) (N := some 10) (v := ?_) (a' := ?_) #[true, true, true, false, true, true, false, false, false, false] rfl rfl (take_ofW HT_.out HW_.out (by kernel_rfl)) (fun _ _ _ h => h) (Or.inl ⟨by rfl, ?_⟩) hHeld ?_ ?_
   rotate_left
   ·rintro w' ⟨s0, s1, s2, s3, s4, s5, s6, s7, s8⟩
    go_simp
    with_reducible rfl
   rotate_left
   ·simp only [Act.put, List.setIfInBounds_toArray, List.set_cons_zero, List.set_cons_succ, i64_w, i32_w]
    rfl
   refine pure_ (i := 6) (N := some 11) (v := ?_) (a' := ?_) #[true, true, true, false, true, true, true, false, false, false] rfl rfl (any_of HT_.out (by kernel_rfl)) (fun _ _ _ h => h) (Or.inl ⟨by rfl, ?_⟩) ?_ ?_
   rotate_left
   ·intro w'
    go_simp
    with_reducible rfl
   rotate_left
   ·simp only [Act.put, List.setIfInBounds_toArray, List.set_cons_zero, List.set_cons_succ, i64_w, i32_w]
    rfl
   refine one_ (i := 3) (N := some 8) #[true, true, true, true, true, true, true, false, false, false] rfl rfl (one_of HT_.out (by kernel_rfl)) (by decide) (fun K hK => ?_)
   refine goes_ Try.func21 (by kernel_rfl) rfl #[.int .u64 (IntKind.u64.wrap (a0_0)), .int .i64 4] (by rfl) rfl rfl (by (try simp only [List.map_toArray, List.map_cons, List.map_nil]); first | done | rfl | (simp only [List.length_drop, List.length_take]; rfl)) ?_
   with_reducible refine (fairleadref04_low.calls k (IntKind.u64.wrap (a0_0)) 4 t179 _ A2.out).mono ?_
   rintro e w9 ⟨v180, rfl, ho0, hb⟩
   refine ⟨_, rfl, ?_⟩
   have n0_ := Aside0.mk (Kd.R_lower ho0 (below_size (by repeat (first | (with_reducible first | exact HB.out | apply below_alloc | apply pw_below_drewN | apply below_drew1 | refine below_set ?_ GE178.out) | exact HB.out))))
   have n1_ := Aside0.mk (blk_below (g := gb178) (o := .cells #[.int .u32 a0_0, .int .u32 a0_1, .int .u64 a0_2, .int .u64 a0_3, .int .u64 a0_4, .int .u64 a0_5, .int .u64 a0_6, .int .u64 a0_7, .int .u64 a0_8] 26 (0, 0)) (by (with_reducible repeat (first | refine blk_drewN ?_ _ | refine blk_drew ?_ | refine blk_alloc ?_ _)); exact BK178.out) hb)
   have n2_ := Aside0.mk (below_step (by repeat (first | (with_reducible first | exact HB.out | apply below_alloc | apply pw_below_drewN | apply below_drew1 | refine below_set ?_ GE178.out) | exact HB.out)) hb)
   clear BK178
   clear HB
   have HO181 := n0_
   have BK178 := n1_
   have HB := n2_
   clear n0_ n1_ n2_
   (try clear hb)
   (try clear hb2)
   (try clear hk)
   (try clear hi)
   (try clear ho0)
   refine hK.out _ _ ⟨(blk_cell BK178.out 0).trans rfl, (blk_cell BK178.out 1).trans rfl, (blk_cell BK178.out 2).trans rfl, (blk_cell BK178.out 3).trans rfl, (blk_cell BK178.out 4).trans rfl, (blk_cell BK178.out 5).trans rfl, (blk_cell BK178.out 6).trans rfl, (blk_cell BK178.out 7).trans rfl, (blk_cell BK178.out 8).trans rfl⟩ (fun hHeld => ?_)
   clear hK K
   refine norm_ (a' := ?_) ?_ ?_
   rotate_left
   ·show Act.put _ (some 8) _ = _
    simp only [Act.put, List.setIfInBounds_toArray, List.set_cons_zero, List.set_cons_succ, i64_w, i32_w]
    rfl
   refine one_ (i := 7) (N := some 12) #[true, true, true, true, true, true, true, true, false, false] rfl rfl (one_of HT_.out (by kernel_rfl)) (by decide) (fun K hK => ?_)
   refine goes_ Try.func21 (by kernel_rfl) rfl #[.int .u64 (IntKind.u64.wrap (a0_1)), .int .i64 4] (by rfl) rfl rfl (by (try simp only [List.map_toArray, List.map_cons, List.map_nil]); first | done | rfl | (simp only [List.length_drop, List.length_take]; rfl)) ?_
   with_reducible refine (fairleadref04_low.calls k (IntKind.u64.wrap (a0_1)) 4 t182 _ A3.out).mono ?_
   rintro e w10 ⟨v183, rfl, ho0, hb⟩
   refine ⟨_, rfl, ?_⟩
   have n0_ := Aside0.mk (Kd.R_elder' (by (with_reducible repeat (first | apply Kd.R_alloc | apply Kd.R_drewN | apply Kd.R_drew)); exact HO181.out) (Kd.R_base ho0) hb)
   have n1_ := Aside0.mk (Kd.R_lower (Kd.R_new' ho0 (Kd.R_lt (by (with_reducible repeat (first | apply Kd.R_alloc | apply Kd.R_drewN | apply Kd.R_drew)); exact HO181.out))) (below_size (by repeat (first | (with_reducible first | exact HB.out | apply below_alloc | apply pw_below_drewN | apply below_drew1 | refine below_set ?_ GE178.out) | exact HB.out))))
   have n2_ := Aside0.mk (blk_below (g := gb178) (o := .cells #[.int .u32 a0_0, .int .u32 a0_1, .int .u64 a0_2, .int .u64 a0_3, .int .u64 a0_4, .int .u64 a0_5, .int .u64 a0_6, .int .u64 a0_7, .int .u64 a0_8] 26 (0, 0)) (by (with_reducible repeat (first | refine blk_drewN ?_ _ | refine blk_drew ?_ | refine blk_alloc ?_ _)); exact BK178.out) hb)
   have n3_ := Aside0.mk (below_step (by repeat (first | (with_reducible first | exact HB.out | apply below_alloc | apply pw_below_drewN | apply below_drew1 | refine below_set ?_ GE178.out) | exact HB.out)) hb)
   clear HO181
   clear BK178
   clear HB
   have HO181 := n0_
   have HO184 := n1_
   have BK178 := n2_
   have HB := n3_
   clear n0_ n1_ n2_ n3_
   (try clear hb)
   (try clear hb2)
   (try clear hk)
   (try clear hi)
   (try clear ho0)
   obtain ⟨Ao12, co12, eo12⟩ := Kd.R_slice HO184.out
   (first | subst eo12 | (injection eo12 with f1_ f2_ f3_; have f4_ := f1_.symm; have f5_ := f3_.symm; clear f1_ f2_ f3_; subst f4_; subst f5_))
   refine hK.out _ _ ⟨(blk_cell BK178.out 0).trans rfl, (blk_cell BK178.out 1).trans rfl, (blk_cell BK178.out 2).trans rfl, (blk_cell BK178.out 3).trans rfl, (blk_cell BK178.out 4).trans rfl, (blk_cell BK178.out 5).trans rfl, (blk_cell BK178.out 6).trans rfl, (blk_cell BK178.out 7).trans rfl, (blk_cell BK178.out 8).trans rfl⟩ (fun hHeld => ?_)
   clear hK K
   refine norm_ (a' := ?_) ?_ ?_
   rotate_left
   ·show Act.put _ (some 12) _ = _
    simp only [Act.put, List.setIfInBounds_toArray, List.set_cons_zero, List.set_cons_succ, i64_w, i32_w]
    rfl
   refine one_ (i := 8) (N := some 13) #[true, true, true, true, true, true, true, true, true, false] rfl rfl (one_of HT_.out (by kernel_rfl)) (by decide) (fun K hK => ?_)
   refine Kd.R_append_rows_step (Kd.int .u8) (w0 := w) w.heap.size (by rfl) (.tmp 8) (.tmp 12) 28 5 (.int .u8 0) 1 rfl Try.underlying28 info5 rfl (by decide) (by omega) v180 t179 t182 _ _ _ (fun k_ => some k_ ≠ (.slice Ao12 t182.length co12 : Value).ownBlock) (fun _ => False) rfl rfl ?aO ?aR (fun _ _ h => h) (fun _ h => h.elim) ?aF ?aB ?aS ?aL ?_
   (case aR => repeat (first | exact (Kd.R_reads' HO184.out).2.2 | (with_reducible refine Kd.C_alloc ?_ _) | (with_reducible refine Kd.C_drewN ?_ _) | (with_reducible refine Kd.C_drew ?_)))
   (case aB => exact (by repeat (first | (with_reducible first | exact HB.out | apply below_alloc | apply pw_below_drewN | apply below_drew1 | refine below_set ?_ GE178.out) | exact HB.out)))
   (case aF => exact (fun k_ hk => Kd.fresh' (Kd.R_lt (by (with_reducible repeat (first | apply Kd.R_alloc | apply Kd.R_drewN | apply Kd.R_drew)); exact HO184.out)) k_ hk))
   (case aO => exact (by (with_reducible repeat (first | apply Kd.R_alloc | apply Kd.R_drewN | apply Kd.R_drew)); exact Kd.R_mono HO181.out (fun _ hk => by first | exact hk.2 | exact hk | exact trivial)))
   (case aS => exact (below_size (by repeat (first | (with_reducible first | exact HB.out | apply below_alloc | apply pw_below_drewN | apply below_drew1 | refine below_set ?_ GE178.out) | exact HB.out))))
   (case aL => have := LMc4.out; omega)
   intro v186 w11 ho hb hg hat
   rw [← Ny185.out] at ho
   have n0_ := Aside0.mk (blk_grown (g := gb178) (o := .cells #[.int .u32 a0_0, .int .u32 a0_1, .int .u64 a0_2, .int .u64 a0_3, .int .u64 a0_4, .int .u64 a0_5, .int .u64 a0_6, .int .u64 a0_7, .int .u64 a0_8] 26 (0, 0)) (by (with_reducible repeat (first | refine blk_drewN ?_ _ | refine blk_drew ?_ | refine blk_alloc ?_ _)); exact BK178.out) hg (Kd.R_ne HO181.out BK178.out (by decide)))
   have n1_ := Aside0.mk (Kd.R_after (ok := (fun _ => True)) (by (with_reducible repeat (first | apply Kd.R_alloc | apply Kd.R_drewN | apply Kd.R_drew)); exact HO184.out) hg hat)
   have n2_ := Aside0.mk (hb)
   have n3_ := Aside0.mk (ho)
   clear BK178
   clear HO184
   clear HB
   clear HO181
   have BK178 := n0_
   have HO184 := n1_
   have HB := n2_
   have HO187 := n3_
   clear n0_ n1_ n2_ n3_
   clear ho hb hg hat
   refine hK.out _ _ ⟨(blk_cell BK178.out 0).trans rfl, (blk_cell BK178.out 1).trans rfl, (blk_cell BK178.out 2).trans rfl, (blk_cell BK178.out 3).trans rfl, (blk_cell BK178.out 4).trans rfl, (blk_cell BK178.out 5).trans rfl, (blk_cell BK178.out 6).trans rfl, (blk_cell BK178.out 7).trans rfl, (blk_cell BK178.out 8).trans rfl⟩ (fun hHeld => ?_)
   clear hK K
   refine norm_ (a' := ?_) ?_ ?_
   rotate_left
   ·show Act.put _ (some 13) _ = _
    simp only [Act.put, List.setIfInBounds_toArray, List.set_cons_zero, List.set_cons_succ, i64_w, i32_w]
    rfl
   refine pure_ (i := 9) (N := some 3) (v := ?_) (a' := ?_) #[true, true, true, true, true, true, true, true, true, true] rfl rfl (any_of HT_.out (by kernel_rfl)) (fun _ _ _ h => h) (Or.inl ⟨by rfl, ?_⟩) ?_ ?_
   rotate_left
   ·intro w'
    go_simp
    with_reducible rfl
   rotate_left
   ·simp only [Act.put, List.setIfInBounds_toArray, List.set_cons_zero, List.set_cons_succ, i64_w, i32_w]
    rfl
   refine done_ (done_of HT_.out (by kernel_rfl)) ?_
   have hcz13_0 : w11.cell? ⟨gb178, 0, none⟩ = some (.int .u32 a0_0) := (blk_cell BK178.out 0).trans rfl
   have hcz13_1 : w11.cell? ⟨gb178, 1, none⟩ = some (.int .u32 a0_1) := (blk_cell BK178.out 1).trans rfl
   have hcz13_2 : w11.cell? ⟨gb178, 2, none⟩ = some (.int .u64 a0_2) := (blk_cell BK178.out 2).trans rfl
   have hcz13_3 : w11.cell? ⟨gb178, 3, none⟩ = some (.int .u64 a0_3) := (blk_cell BK178.out 3).trans rfl
   have hcz13_4 : w11.cell? ⟨gb178, 4, none⟩ = some (.int .u64 a0_4) := (blk_cell BK178.out 4).trans rfl
   have hcz13_5 : w11.cell? ⟨gb178, 5, none⟩ = some (.int .u64 a0_5) := (blk_cell BK178.out 5).trans rfl
   have hcz13_6 : w11.cell? ⟨gb178, 6, none⟩ = some (.int .u64 a0_6) := (blk_cell BK178.out 6).trans rfl
   have hcz13_7 : w11.cell? ⟨gb178, 7, none⟩ = some (.int .u64 a0_7) := (blk_cell BK178.out 7).trans rfl
   have hcz13_8 : w11.cell? ⟨gb178, 8, none⟩ = some (.int .u64 a0_8) := (blk_cell BK178.out 8).trans rfl
   have hfz13_0 := blk_frozen BK178.out 0
   have hfz13_1 := blk_frozen BK178.out 1
   have hfz13_2 := blk_frozen BK178.out 2
   have hfz13_3 := blk_frozen BK178.out 3
   have hfz13_4 := blk_frozen BK178.out 4
   have hfz13_5 := blk_frozen BK178.out 5
   have hfz13_6 := blk_frozen BK178.out 6
   have hfz13_7 := blk_frozen BK178.out 7
   have hfz13_8 := blk_frozen BK178.out 8
   try go_wp2_with (first | ((with_reducible refine gate_callee (f := 21) rfl ?_); refine goesL_ (some 17) rfl rfl Try.func21 (by kernel_rfl) rfl #[.int .u64 a0_2, .int .i64 8] rfl (by (try simp only [List.map_toArray, List.map_cons, List.map_nil]); first | done | rfl | (simp only [List.length_drop, List.length_take]; rfl)) ?_; (with_reducible refine (fairleadref04_low.calls k a0_2 8 t188 _ A5.out).mono ?_); rintro e w14 ⟨v189, rfl, ho0, hb⟩; refine ⟨_, rfl, ?_⟩; have n0_ := Aside0.mk (Kd.R_elder' (by (with_reducible repeat (first | apply Kd.R_alloc | apply Kd.R_drewN | apply Kd.R_drew)); exact HO184.out) (Kd.R_base ho0) hb); have n1_ := Aside0.mk (Kd.R_elder' (by (with_reducible repeat (first | apply Kd.R_alloc | apply Kd.R_drewN | apply Kd.R_drew)); exact HO187.out) (Kd.R_base ho0) hb); have n2_ := Aside0.mk (Kd.R_lower (Kd.R_new' (Kd.R_new' ho0 (Kd.R_lt (by (with_reducible repeat (first | apply Kd.R_alloc | apply Kd.R_drewN | apply Kd.R_drew)); exact HO184.out))) (Kd.R_lt (by (with_reducible repeat (first | apply Kd.R_alloc | apply Kd.R_drewN | apply Kd.R_drew)); exact HO187.out))) (below_size (by repeat (first | (with_reducible first | exact HB.out | apply below_alloc | apply pw_below_drewN | apply below_drew1 | refine below_set ?_ GE178.out) | exact HB.out)))); have n3_ := Aside0.mk (blk_below (g := gb178) (o := .cells #[.int .u32 a0_0, .int .u32 a0_1, .int .u64 a0_2, .int .u64 a0_3, .int .u64 a0_4, .int .u64 a0_5, .int .u64 a0_6, .int .u64 a0_7, .int .u64 a0_8] 26 (0, 0)) (by (with_reducible repeat (first | refine blk_drewN ?_ _ | refine blk_drew ?_ | refine blk_alloc ?_ _)); exact BK178.out) hb); have n4_ := Aside0.mk (below_step (by repeat (first | (with_reducible first | exact HB.out | apply below_alloc | apply pw_below_drewN | apply below_drew1 | refine below_set ?_ GE178.out) | exact HB.out)) hb); clear HO184; clear HO187; clear BK178; clear HB; have HO184 := n0_; have HO187 := n1_; have HO190 := n2_; have BK178 := n3_; have HB := n4_; clear n0_ n1_ n2_ n3_ n4_; (try clear hb); (try clear hb2); (try clear hk); (try clear hi); (try clear ho0); obtain ⟨Ao16, co16, eo16⟩ := Kd.R_slice HO190.out; subst eo16) | ((with_reducible refine gate_builtin (b := .append) (xs := #[.tmp 14, .tmp 17]) rfl ?_); at_builtin; refine Kd.R_append_rows (Kd.int .u8) (w0 := w) w.heap.size rfl (.tmp 14) (.tmp 17) 28 5 (.int .u8 0) 1 rfl Try.underlying28 info5 rfl (by decide) (by omega) v186 y185 t188 _ _ _ (fun k_ => some k_ ≠ (.slice Ao12 t182.length co12 : Value).ownBlock ∧ some k_ ≠ (.slice Ao16 t188.length co16 : Value).ownBlock) (fun _ => False) rfl rfl ?aO ?aR (fun _ _ h => h) (fun _ h => h.elim) ?aF ?aB ?aS ?aL ?_; (case aR => repeat (first | exact (Kd.R_reads' HO190.out).2.2 | (with_reducible refine Kd.C_alloc ?_ _) | (with_reducible refine Kd.C_drewN ?_ _) | (with_reducible refine Kd.C_drew ?_))); (case aB => exact (by repeat (first | (with_reducible first | exact HB.out | apply below_alloc | apply pw_below_drewN | apply below_drew1 | refine below_set ?_ GE178.out) | exact HB.out))); (case aF => exact (fun k_ hk => ⟨Kd.fresh' (Kd.R_lt (by (with_reducible repeat (first | apply Kd.R_alloc | apply Kd.R_drewN | apply Kd.R_drew)); exact HO184.out)) k_ hk, Kd.fresh' (Kd.R_lt (by (with_reducible repeat (first | apply Kd.R_alloc | apply Kd.R_drewN | apply Kd.R_drew)); exact HO190.out)) k_ hk⟩)); (case aO => exact (by (with_reducible repeat (first | apply Kd.R_alloc | apply Kd.R_drewN | apply Kd.R_drew)); exact HO187.out)); (case aS => exact (below_size (by repeat (first | (with_reducible first | exact HB.out | apply below_alloc | apply pw_below_drewN | apply below_drew1 | refine below_set ?_ GE178.out) | exact HB.out)))); (case aL => have := LMc6.out; omega); intro v192 w15 ho hb hg hat; rw [← Ny191.out] at ho; have n0_ := Aside0.mk (blk_grown (g := gb178) (o := .cells #[.int .u32 a0_0, .int .u32 a0_1, .int .u64 a0_2, .int .u64 a0_3, .int .u64 a0_4, .int .u64 a0_5, .int .u64 a0_6, .int .u64 a0_7, .int .u64 a0_8] 26 (0, 0)) (by (with_reducible repeat (first | refine blk_drewN ?_ _ | refine blk_drew ?_ | refine blk_alloc ?_ _)); exact BK178.out) hg (Kd.R_ne HO187.out BK178.out (by decide))); have n1_ := Aside0.mk (Kd.R_after (ok := (fun k_ => some k_ ≠ (.slice Ao16 t188.length co16 : Value).ownBlock)) (by (with_reducible repeat (first | apply Kd.R_alloc | apply Kd.R_drewN | apply Kd.R_drew)); exact Kd.R_mono HO184.out (fun _ hk => ⟨hk.2, hk.1.2⟩)) hg hat); have n2_ := Aside0.mk (Kd.R_after (ok := (fun k_ => some k_ ≠ (.slice Ao12 t182.length co12 : Value).ownBlock)) (by (with_reducible repeat (first | apply Kd.R_alloc | apply Kd.R_drewN | apply Kd.R_drew)); exact Kd.R_mono HO190.out (fun _ hk => ⟨hk.1.2, hk.2⟩)) hg hat); have n3_ := Aside0.mk (hb); have n4_ := Aside0.mk (ho); clear BK178; clear HO184; clear HO190; clear HB; clear HO187; have BK178 := n0_; have HO184 := n1_; have HO190 := n2_; have HB := n3_; have HO193 := n4_; clear n0_ n1_ n2_ n3_ n4_; clear ho hb hg hat))
   go_loopg [3, 4] k (fun kq v3 v4 w' => ∃ (x3_1 : List Int) (x4_1 : Int), v4 = .int .i64 x4_1 ∧ Aside0 (fairleadref04_Bytes.l0 kq x3_1 x4_1 a0_0 a0_1 a0_2 a0_3 a0_4 a0_5 a0_6 a0_7 a0_8 = some r) ∧ Aside0 (kq ≤ k) ∧ Aside0 (Kd.R (Kd.int .u8) 5 w' w.heap.size (fun _ => True) v3 x3_1) ∧ Aside0 (w'.heap[gb178]? = some (.cells #[.int .u32 a0_0, .int .u32 a0_1, .int .u64 a0_2, .int .u64 a0_3, .int .u64 a0_4, .int .u64 a0_5, .int .u64 a0_6, .int .u64 a0_7, .int .u64 a0_8] 26 (0, 0))) ∧ Aside0 (Below w.heap.size w w'))
   case atStart => exact ⟨(y191), (0), (by first | rfl | (simp; done) | (simp [*]; done)), H', ⟨Nat.le_refl _⟩, ⟨by (with_reducible repeat (first | apply Kd.R_alloc | apply Kd.R_drewN | apply Kd.R_drew)); exact Kd.R_mono HO193.out (fun _ hk => trivial)⟩, ⟨by (with_reducible repeat (first | refine blk_drewN ?_ _ | refine blk_drew ?_ | refine blk_alloc ?_ _)); exact BK178.out⟩, ⟨by repeat (first | (with_reducible first | exact HB.out | apply below_alloc | apply pw_below_drewN | apply below_drew1 | refine below_set ?_ GE178.out) | exact HB.out)⟩⟩
   case round =>
    clear H'
    try clear c1
    try clear c2
    try clear p2
    try clear c4
    try clear c6
    try clear hcz13_0
    try clear hcz13_1
    try clear hcz13_2
    try clear hcz13_3
    try clear hcz13_4
    try clear hcz13_5
    try clear hcz13_6
    try clear hcz13_7
    try clear hcz13_8
    try clear hfz13_0
    try clear hfz13_1
    try clear hfz13_2
    try clear hfz13_3
    try clear hfz13_4
    try clear hfz13_5
    try clear hfz13_6
    try clear hfz13_7
    try clear hfz13_8
    obtain ⟨x3_1, x4_1, rfl, HA, HK1, HO_3, BK178, HB⟩ := hrel
    cases gk with
    | zero => exact absurd HA.out (by simp [fairleadref04_Bytes.l0])
    | succ k1 =>
     have H := HA.out
     clear HA
     simp only [fairleadref04_Bytes.l0] at H
     by_cases c17 : x4_1 < 6
     ·rw [if_pos c17] at H
      have c17b0 : decide (x4_1 < 6) = true := decide_eq_true c17
      clear c17
      by_cases c18 : x4_1 = 0
      ·rw [if_pos c18] at H
       subst c18
       replace H := Option.bind_eq_some_iff.mp H
       obtain ⟨t194, A190, H⟩ := H
       replace H : (if x3_1.length + t194.length < 140737488355328 then (fairleadref04_Bytes.l0 k1 (x3_1 ++ t194) 1 a0_0 a0_1 a0_2 a0_3 a0_4 a0_5 a0_6 a0_7 a0_8) else (none)) = some r := H
       have A19 := Aside0.mk A190
       clear A190
       by_cases c20 : x3_1.length + t194.length < 140737488355328
       ·rw [if_pos c20] at H
        have LMc20 := Aside0.mk c20
        clear c20
        obtain ⟨y197, hy197⟩ : ∃ y_ : List Int, y_ = (x3_1 ++ t194) := ⟨_, rfl⟩
        replace H : (fairleadref04_Bytes.l0 k1 y197 1 a0_0 a0_1 a0_2 a0_3 a0_4 a0_5 a0_6 a0_7 a0_8) = some r := by first | (rw [hy197]; with_reducible exact H) | (have H2_ := (Option.bind_some _ _).symm.trans H; rw [hy197]; with_reducible exact H2_) | (have H2_ := (Option.bind_some _ _).symm.trans H; with_reducible exact H2_) | with_reducible exact H | (rw [hy197]; exact H) | exact H
        have Ny197 := Aside0.mk hy197
        clear hy197
        have H' := Aside0.mk H
        clear H
        have hcz21_0 : wr.cell? ⟨gb178, 0, none⟩ = some (.int .u32 a0_0) := (blk_cell BK178.out 0).trans rfl
        have hcz21_1 : wr.cell? ⟨gb178, 1, none⟩ = some (.int .u32 a0_1) := (blk_cell BK178.out 1).trans rfl
        have hcz21_2 : wr.cell? ⟨gb178, 2, none⟩ = some (.int .u64 a0_2) := (blk_cell BK178.out 2).trans rfl
        have hcz21_3 : wr.cell? ⟨gb178, 3, none⟩ = some (.int .u64 a0_3) := (blk_cell BK178.out 3).trans rfl
        have hcz21_4 : wr.cell? ⟨gb178, 4, none⟩ = some (.int .u64 a0_4) := (blk_cell BK178.out 4).trans rfl
        have hcz21_5 : wr.cell? ⟨gb178, 5, none⟩ = some (.int .u64 a0_5) := (blk_cell BK178.out 5).trans rfl
        have hcz21_6 : wr.cell? ⟨gb178, 6, none⟩ = some (.int .u64 a0_6) := (blk_cell BK178.out 6).trans rfl
        have hcz21_7 : wr.cell? ⟨gb178, 7, none⟩ = some (.int .u64 a0_7) := (blk_cell BK178.out 7).trans rfl
        have hcz21_8 : wr.cell? ⟨gb178, 8, none⟩ = some (.int .u64 a0_8) := (blk_cell BK178.out 8).trans rfl
        have hfz21_0 := blk_frozen BK178.out 0
        have hfz21_1 := blk_frozen BK178.out 1
        have hfz21_2 := blk_frozen BK178.out 2
        have hfz21_3 := blk_frozen BK178.out 3
        have hfz21_4 := blk_frozen BK178.out 4
        have hfz21_5 := blk_frozen BK178.out 5
        have hfz21_6 := blk_frozen BK178.out 6
        have hfz21_7 := blk_frozen BK178.out 7
        have hfz21_8 := blk_frozen BK178.out 8
        go_wp2_with (first | ((with_reducible refine gate_callee (f := 21) rfl ?_); refine goesL_ (some 28) rfl rfl Try.func21 (by kernel_rfl) rfl #[.int .u64 a0_3, .int .i64 8] rfl (by (try simp only [List.map_toArray, List.map_cons, List.map_nil]); first | done | rfl | (simp only [List.length_drop, List.length_take]; rfl)) ?_; (with_reducible refine (fairleadref04_low.calls k1 a0_3 8 t194 _ A19.out).mono ?_); rintro e w22 ⟨v195, rfl, ho0, hb⟩; refine ⟨_, rfl, ?_⟩; have n0_ := Aside0.mk (Kd.R_elder' (by (with_reducible repeat (first | apply Kd.R_alloc | apply Kd.R_drewN | apply Kd.R_drew)); exact HO_3.out) (Kd.R_base ho0) hb); have n1_ := Aside0.mk (Kd.R_lower (Kd.R_new' ho0 (Kd.R_lt (by (with_reducible repeat (first | apply Kd.R_alloc | apply Kd.R_drewN | apply Kd.R_drew)); exact HO_3.out))) (below_size (by repeat (first | (with_reducible first | exact HB.out | apply below_alloc | apply pw_below_drewN | apply below_drew1 | refine below_set ?_ GE178.out) | exact HB.out)))); have n2_ := Aside0.mk (blk_below (g := gb178) (o := .cells #[.int .u32 a0_0, .int .u32 a0_1, .int .u64 a0_2, .int .u64 a0_3, .int .u64 a0_4, .int .u64 a0_5, .int .u64 a0_6, .int .u64 a0_7, .int .u64 a0_8] 26 (0, 0)) (by (with_reducible repeat (first | refine blk_drewN ?_ _ | refine blk_drew ?_ | refine blk_alloc ?_ _)); exact BK178.out) hb); have n3_ := Aside0.mk (below_step (by repeat (first | (with_reducible first | exact HB.out | apply below_alloc | apply pw_below_drewN | apply below_drew1 | refine below_set ?_ GE178.out) | exact HB.out)) hb); clear HO_3; clear BK178; clear HB; have HO_3 := n0_; have HO196 := n1_; have BK178 := n2_; have HB := n3_; clear n0_ n1_ n2_ n3_; (try clear hb); (try clear hb2); (try clear hk); (try clear hi); (try clear ho0); obtain ⟨Ao24, co24, eo24⟩ := Kd.R_slice HO196.out; subst eo24) | ((with_reducible refine gate_builtin (b := .append) (xs := #[.tmp 23, .tmp 28]) rfl ?_); at_builtin; refine Kd.R_append_rows (Kd.int .u8) (w0 := w) w.heap.size rfl (.tmp 23) (.tmp 28) 28 5 (.int .u8 0) 1 rfl Try.underlying28 info5 rfl (by decide) (by omega) u3 x3_1 t194 _ _ _ (fun k_ => some k_ ≠ (.slice Ao24 t194.length co24 : Value).ownBlock) (fun _ => False) rfl rfl ?aO ?aR (fun _ _ h => h) (fun _ h => h.elim) ?aF ?aB ?aS ?aL ?_; (case aR => repeat (first | exact (Kd.R_reads' HO196.out).2.2 | (with_reducible refine Kd.C_alloc ?_ _) | (with_reducible refine Kd.C_drewN ?_ _) | (with_reducible refine Kd.C_drew ?_))); (case aB => exact (by repeat (first | (with_reducible first | exact HB.out | apply below_alloc | apply pw_below_drewN | apply below_drew1 | refine below_set ?_ GE178.out) | exact HB.out))); (case aF => exact (fun k_ hk => Kd.fresh' (Kd.R_lt (by (with_reducible repeat (first | apply Kd.R_alloc | apply Kd.R_drewN | apply Kd.R_drew)); exact HO196.out)) k_ hk)); (case aO => exact (by (with_reducible repeat (first | apply Kd.R_alloc | apply Kd.R_drewN | apply Kd.R_drew)); exact Kd.R_mono HO_3.out (fun _ hk => by first | exact hk.2 | exact hk | exact trivial))); (case aS => exact (below_size (by repeat (first | (with_reducible first | exact HB.out | apply below_alloc | apply pw_below_drewN | apply below_drew1 | refine below_set ?_ GE178.out) | exact HB.out)))); (case aL => have := LMc20.out; omega); intro v198 w23 ho hb hg hat; rw [← Ny197.out] at ho; have n0_ := Aside0.mk (blk_grown (g := gb178) (o := .cells #[.int .u32 a0_0, .int .u32 a0_1, .int .u64 a0_2, .int .u64 a0_3, .int .u64 a0_4, .int .u64 a0_5, .int .u64 a0_6, .int .u64 a0_7, .int .u64 a0_8] 26 (0, 0)) (by (with_reducible repeat (first | refine blk_drewN ?_ _ | refine blk_drew ?_ | refine blk_alloc ?_ _)); exact BK178.out) hg (Kd.R_ne HO_3.out BK178.out (by decide))); have n1_ := Aside0.mk (Kd.R_after (ok := (fun _ => True)) (by (with_reducible repeat (first | apply Kd.R_alloc | apply Kd.R_drewN | apply Kd.R_drew)); exact HO196.out) hg hat); have n2_ := Aside0.mk (hb); have n3_ := Aside0.mk (ho); clear BK178; clear HO196; clear HB; clear HO_3; have BK178 := n0_; have HO196 := n1_; have HB := n2_; have HO199 := n3_; clear n0_ n1_ n2_ n3_; clear ho hb hg hat))
        go_roundg k1
        case measure => have := HK1.out; omega
        case rel => exact ⟨(y197), (1), (by first | rfl | (simp; done) | (simp [*]; done)), H', ⟨by have := HK1.out; omega⟩, ⟨by (with_reducible repeat (first | apply Kd.R_alloc | apply Kd.R_drewN | apply Kd.R_drew)); exact Kd.R_mono HO199.out (fun _ hk => trivial)⟩, ⟨by (with_reducible repeat (first | refine blk_drewN ?_ _ | refine blk_drew ?_ | refine blk_alloc ?_ _)); exact BK178.out⟩, ⟨by repeat (first | (with_reducible first | exact HB.out | apply below_alloc | apply pw_below_drewN | apply below_drew1 | refine below_set ?_ GE178.out) | exact HB.out)⟩⟩
       ·rw [if_neg c20] at H
        exact absurd H (by simp)
      ·rw [if_neg c18] at H
       clear c18
       by_cases c25 : x4_1 = 1
       ·rw [if_pos c25] at H
        subst c25
        replace H := Option.bind_eq_some_iff.mp H
        obtain ⟨t200, A260, H⟩ := H
        replace H : (if x3_1.length + t200.length < 140737488355328 then (fairleadref04_Bytes.l0 k1 (x3_1 ++ t200) 2 a0_0 a0_1 a0_2 a0_3 a0_4 a0_5 a0_6 a0_7 a0_8) else (none)) = some r := H
        have A26 := Aside0.mk A260
        clear A260
        by_cases c27 : x3_1.length + t200.length < 140737488355328
        ·rw [if_pos c27] at H
         have LMc27 := Aside0.mk c27
         clear c27
         obtain ⟨y203, hy203⟩ : ∃ y_ : List Int, y_ = (x3_1 ++ t200) := ⟨_, rfl⟩
         replace H : (fairleadref04_Bytes.l0 k1 y203 2 a0_0 a0_1 a0_2 a0_3 a0_4 a0_5 a0_6 a0_7 a0_8) = some r := by first | (rw [hy203]; with_reducible exact H) | (have H2_ := (Option.bind_some _ _).symm.trans H; rw [hy203]; with_reducible exact H2_) | (have H2_ := (Option.bind_some _ _).symm.trans H; with_reducible exact H2_) | with_reducible exact H | (rw [hy203]; exact H) | exact H
         have Ny203 := Aside0.mk hy203
         clear hy203
         have H' := Aside0.mk H
         clear H
         have hcz28_0 : wr.cell? ⟨gb178, 0, none⟩ = some (.int .u32 a0_0) := (blk_cell BK178.out 0).trans rfl
         have hcz28_1 : wr.cell? ⟨gb178, 1, none⟩ = some (.int .u32 a0_1) := (blk_cell BK178.out 1).trans rfl
         have hcz28_2 : wr.cell? ⟨gb178, 2, none⟩ = some (.int .u64 a0_2) := (blk_cell BK178.out 2).trans rfl
         have hcz28_3 : wr.cell? ⟨gb178, 3, none⟩ = some (.int .u64 a0_3) := (blk_cell BK178.out 3).trans rfl
         have hcz28_4 : wr.cell? ⟨gb178, 4, none⟩ = some (.int .u64 a0_4) := (blk_cell BK178.out 4).trans rfl
         have hcz28_5 : wr.cell? ⟨gb178, 5, none⟩ = some (.int .u64 a0_5) := (blk_cell BK178.out 5).trans rfl
         have hcz28_6 : wr.cell? ⟨gb178, 6, none⟩ = some (.int .u64 a0_6) := (blk_cell BK178.out 6).trans rfl
         have hcz28_7 : wr.cell? ⟨gb178, 7, none⟩ = some (.int .u64 a0_7) := (blk_cell BK178.out 7).trans rfl
         have hcz28_8 : wr.cell? ⟨gb178, 8, none⟩ = some (.int .u64 a0_8) := (blk_cell BK178.out 8).trans rfl
         have hfz28_0 := blk_frozen BK178.out 0
         have hfz28_1 := blk_frozen BK178.out 1
         have hfz28_2 := blk_frozen BK178.out 2
         have hfz28_3 := blk_frozen BK178.out 3
         have hfz28_4 := blk_frozen BK178.out 4
         have hfz28_5 := blk_frozen BK178.out 5
         have hfz28_6 := blk_frozen BK178.out 6
         have hfz28_7 := blk_frozen BK178.out 7
         have hfz28_8 := blk_frozen BK178.out 8
         go_wp2_with (first | ((with_reducible refine gate_callee (f := 21) rfl ?_); refine goesL_ (some 28) rfl rfl Try.func21 (by kernel_rfl) rfl #[.int .u64 a0_4, .int .i64 8] rfl (by (try simp only [List.map_toArray, List.map_cons, List.map_nil]); first | done | rfl | (simp only [List.length_drop, List.length_take]; rfl)) ?_; (with_reducible refine (fairleadref04_low.calls k1 a0_4 8 t200 _ A26.out).mono ?_); rintro e w29 ⟨v201, rfl, ho0, hb⟩; refine ⟨_, rfl, ?_⟩; have n0_ := Aside0.mk (Kd.R_elder' (by (with_reducible repeat (first | apply Kd.R_alloc | apply Kd.R_drewN | apply Kd.R_drew)); exact HO_3.out) (Kd.R_base ho0) hb); have n1_ := Aside0.mk (Kd.R_lower (Kd.R_new' ho0 (Kd.R_lt (by (with_reducible repeat (first | apply Kd.R_alloc | apply Kd.R_drewN | apply Kd.R_drew)); exact HO_3.out))) (below_size (by repeat (first | (with_reducible first | exact HB.out | apply below_alloc | apply pw_below_drewN | apply below_drew1 | refine below_set ?_ GE178.out) | exact HB.out)))); have n2_ := Aside0.mk (blk_below (g := gb178) (o := .cells #[.int .u32 a0_0, .int .u32 a0_1, .int .u64 a0_2, .int .u64 a0_3, .int .u64 a0_4, .int .u64 a0_5, .int .u64 a0_6, .int .u64 a0_7, .int .u64 a0_8] 26 (0, 0)) (by (with_reducible repeat (first | refine blk_drewN ?_ _ | refine blk_drew ?_ | refine blk_alloc ?_ _)); exact BK178.out) hb); have n3_ := Aside0.mk (below_step (by repeat (first | (with_reducible first | exact HB.out | apply below_alloc | apply pw_below_drewN | apply below_drew1 | refine below_set ?_ GE178.out) | exact HB.out)) hb); clear HO_3; clear BK178; clear HB; have HO_3 := n0_; have HO202 := n1_; have BK178 := n2_; have HB := n3_; clear n0_ n1_ n2_ n3_; (try clear hb); (try clear hb2); (try clear hk); (try clear hi); (try clear ho0); obtain ⟨Ao31, co31, eo31⟩ := Kd.R_slice HO202.out; subst eo31) | ((with_reducible refine gate_builtin (b := .append) (xs := #[.tmp 23, .tmp 28]) rfl ?_); at_builtin; refine Kd.R_append_rows (Kd.int .u8) (w0 := w) w.heap.size rfl (.tmp 23) (.tmp 28) 28 5 (.int .u8 0) 1 rfl Try.underlying28 info5 rfl (by decide) (by omega) u3 x3_1 t200 _ _ _ (fun k_ => some k_ ≠ (.slice Ao31 t200.length co31 : Value).ownBlock) (fun _ => False) rfl rfl ?aO ?aR (fun _ _ h => h) (fun _ h => h.elim) ?aF ?aB ?aS ?aL ?_; (case aR => repeat (first | exact (Kd.R_reads' HO202.out).2.2 | (with_reducible refine Kd.C_alloc ?_ _) | (with_reducible refine Kd.C_drewN ?_ _) | (with_reducible refine Kd.C_drew ?_))); (case aB => exact (by repeat (first | (with_reducible first | exact HB.out | apply below_alloc | apply pw_below_drewN | apply below_drew1 | refine below_set ?_ GE178.out) | exact HB.out))); (case aF => exact (fun k_ hk => Kd.fresh' (Kd.R_lt (by (with_reducible repeat (first | apply Kd.R_alloc | apply Kd.R_drewN | apply Kd.R_drew)); exact HO202.out)) k_ hk)); (case aO => exact (by (with_reducible repeat (first | apply Kd.R_alloc | apply Kd.R_drewN | apply Kd.R_drew)); exact Kd.R_mono HO_3.out (fun _ hk => by first | exact hk.2 | exact hk | exact trivial))); (case aS => exact (below_size (by repeat (first | (with_reducible first | exact HB.out | apply below_alloc | apply pw_below_drewN | apply below_drew1 | refine below_set ?_ GE178.out) | exact HB.out)))); (case aL => have := LMc27.out; omega); intro v204 w30 ho hb hg hat; rw [← Ny203.out] at ho; have n0_ := Aside0.mk (blk_grown (g := gb178) (o := .cells #[.int .u32 a0_0, .int .u32 a0_1, .int .u64 a0_2, .int .u64 a0_3, .int .u64 a0_4, .int .u64 a0_5, .int .u64 a0_6, .int .u64 a0_7, .int .u64 a0_8] 26 (0, 0)) (by (with_reducible repeat (first | refine blk_drewN ?_ _ | refine blk_drew ?_ | refine blk_alloc ?_ _)); exact BK178.out) hg (Kd.R_ne HO_3.out BK178.out (by decide))); have n1_ := Aside0.mk (Kd.R_after (ok := (fun _ => True)) (by (with_reducible repeat (first | apply Kd.R_alloc | apply Kd.R_drewN | apply Kd.R_drew)); exact HO202.out) hg hat); have n2_ := Aside0.mk (hb); have n3_ := Aside0.mk (ho); clear BK178; clear HO202; clear HB; clear HO_3; have BK178 := n0_; have HO202 := n1_; have HB := n2_; have HO205 := n3_; clear n0_ n1_ n2_ n3_; clear ho hb hg hat))
         go_roundg k1
         case measure => have := HK1.out; omega
         case rel => exact ⟨(y203), (2), (by first | rfl | (simp; done) | (simp [*]; done)), H', ⟨by have := HK1.out; omega⟩, ⟨by (with_reducible repeat (first | apply Kd.R_alloc | apply Kd.R_drewN | apply Kd.R_drew)); exact Kd.R_mono HO205.out (fun _ hk => trivial)⟩, ⟨by (with_reducible repeat (first | refine blk_drewN ?_ _ | refine blk_drew ?_ | refine blk_alloc ?_ _)); exact BK178.out⟩, ⟨by repeat (first | (with_reducible first | exact HB.out | apply below_alloc | apply pw_below_drewN | apply below_drew1 | refine below_set ?_ GE178.out) | exact HB.out)⟩⟩
        ·rw [if_neg c27] at H
         exact absurd H (by simp)
       ·rw [if_neg c25] at H
        clear c25
        by_cases c32 : x4_1 = 2
        ·rw [if_pos c32] at H
         subst c32
         replace H := Option.bind_eq_some_iff.mp H
         obtain ⟨t206, A330, H⟩ := H
         replace H : (if x3_1.length + t206.length < 140737488355328 then (fairleadref04_Bytes.l0 k1 (x3_1 ++ t206) 3 a0_0 a0_1 a0_2 a0_3 a0_4 a0_5 a0_6 a0_7 a0_8) else (none)) = some r := H
         have A33 := Aside0.mk A330
         clear A330
         by_cases c34 : x3_1.length + t206.length < 140737488355328
         ·rw [if_pos c34] at H
          have LMc34 := Aside0.mk c34
          clear c34
          obtain ⟨y209, hy209⟩ : ∃ y_ : List Int, y_ = (x3_1 ++ t206) := ⟨_, rfl⟩
          replace H : (fairleadref04_Bytes.l0 k1 y209 3 a0_0 a0_1 a0_2 a0_3 a0_4 a0_5 a0_6 a0_7 a0_8) = some r := by first | (rw [hy209]; with_reducible exact H) | (have H2_ := (Option.bind_some _ _).symm.trans H; rw [hy209]; with_reducible exact H2_) | (have H2_ := (Option.bind_some _ _).symm.trans H; with_reducible exact H2_) | with_reducible exact H | (rw [hy209]; exact H) | exact H
          have Ny209 := Aside0.mk hy209
          clear hy209
          have H' := Aside0.mk H
          clear H
          have hcz35_0 : wr.cell? ⟨gb178, 0, none⟩ = some (.int .u32 a0_0) := (blk_cell BK178.out 0).trans rfl
          have hcz35_1 : wr.cell? ⟨gb178, 1, none⟩ = some (.int .u32 a0_1) := (blk_cell BK178.out 1).trans rfl
          have hcz35_2 : wr.cell? ⟨gb178, 2, none⟩ = some (.int .u64 a0_2) := (blk_cell BK178.out 2).trans rfl
          have hcz35_3 : wr.cell? ⟨gb178, 3, none⟩ = some (.int .u64 a0_3) := (blk_cell BK178.out 3).trans rfl
          have hcz35_4 : wr.cell? ⟨gb178, 4, none⟩ = some (.int .u64 a0_4) := (blk_cell BK178.out 4).trans rfl
          have hcz35_5 : wr.cell? ⟨gb178, 5, none⟩ = some (.int .u64 a0_5) := (blk_cell BK178.out 5).trans rfl
          have hcz35_6 : wr.cell? ⟨gb178, 6, none⟩ = some (.int .u64 a0_6) := (blk_cell BK178.out 6).trans rfl
          have hcz35_7 : wr.cell? ⟨gb178, 7, none⟩ = some (.int .u64 a0_7) := (blk_cell BK178.out 7).trans rfl
          have hcz35_8 : wr.cell? ⟨gb178, 8, none⟩ = some (.int .u64 a0_8) := (blk_cell BK178.out 8).trans rfl
          have hfz35_0 := blk_frozen BK178.out 0
          have hfz35_1 := blk_frozen BK178.out 1
          have hfz35_2 := blk_frozen BK178.out 2
          have hfz35_3 := blk_frozen BK178.out 3
          have hfz35_4 := blk_frozen BK178.out 4
          have hfz35_5 := blk_frozen BK178.out 5
          have hfz35_6 := blk_frozen BK178.out 6
          have hfz35_7 := blk_frozen BK178.out 7
          have hfz35_8 := blk_frozen BK178.out 8
          go_wp2_with (first | ((with_reducible refine gate_callee (f := 21) rfl ?_); refine goesL_ (some 28) rfl rfl Try.func21 (by kernel_rfl) rfl #[.int .u64 a0_5, .int .i64 8] rfl (by (try simp only [List.map_toArray, List.map_cons, List.map_nil]); first | done | rfl | (simp only [List.length_drop, List.length_take]; rfl)) ?_; (with_reducible refine (fairleadref04_low.calls k1 a0_5 8 t206 _ A33.out).mono ?_); rintro e w36 ⟨v207, rfl, ho0, hb⟩; refine ⟨_, rfl, ?_⟩; have n0_ := Aside0.mk (Kd.R_elder' (by (with_reducible repeat (first | apply Kd.R_alloc | apply Kd.R_drewN | apply Kd.R_drew)); exact HO_3.out) (Kd.R_base ho0) hb); have n1_ := Aside0.mk (Kd.R_lower (Kd.R_new' ho0 (Kd.R_lt (by (with_reducible repeat (first | apply Kd.R_alloc | apply Kd.R_drewN | apply Kd.R_drew)); exact HO_3.out))) (below_size (by repeat (first | (with_reducible first | exact HB.out | apply below_alloc | apply pw_below_drewN | apply below_drew1 | refine below_set ?_ GE178.out) | exact HB.out)))); have n2_ := Aside0.mk (blk_below (g := gb178) (o := .cells #[.int .u32 a0_0, .int .u32 a0_1, .int .u64 a0_2, .int .u64 a0_3, .int .u64 a0_4, .int .u64 a0_5, .int .u64 a0_6, .int .u64 a0_7, .int .u64 a0_8] 26 (0, 0)) (by (with_reducible repeat (first | refine blk_drewN ?_ _ | refine blk_drew ?_ | refine blk_alloc ?_ _)); exact BK178.out) hb); have n3_ := Aside0.mk (below_step (by repeat (first | (with_reducible first | exact HB.out | apply below_alloc | apply pw_below_drewN | apply below_drew1 | refine below_set ?_ GE178.out) | exact HB.out)) hb); clear HO_3; clear BK178; clear HB; have HO_3 := n0_; have HO208 := n1_; have BK178 := n2_; have HB := n3_; clear n0_ n1_ n2_ n3_; (try clear hb); (try clear hb2); (try clear hk); (try clear hi); (try clear ho0); obtain ⟨Ao38, co38, eo38⟩ := Kd.R_slice HO208.out; subst eo38) | ((with_reducible refine gate_builtin (b := .append) (xs := #[.tmp 23, .tmp 28]) rfl ?_); at_builtin; refine Kd.R_append_rows (Kd.int .u8) (w0 := w) w.heap.size rfl (.tmp 23) (.tmp 28) 28 5 (.int .u8 0) 1 rfl Try.underlying28 info5 rfl (by decide) (by omega) u3 x3_1 t206 _ _ _ (fun k_ => some k_ ≠ (.slice Ao38 t206.length co38 : Value).ownBlock) (fun _ => False) rfl rfl ?aO ?aR (fun _ _ h => h) (fun _ h => h.elim) ?aF ?aB ?aS ?aL ?_; (case aR => repeat (first | exact (Kd.R_reads' HO208.out).2.2 | (with_reducible refine Kd.C_alloc ?_ _) | (with_reducible refine Kd.C_drewN ?_ _) | (with_reducible refine Kd.C_drew ?_))); (case aB => exact (by repeat (first | (with_reducible first | exact HB.out | apply below_alloc | apply pw_below_drewN | apply below_drew1 | refine below_set ?_ GE178.out) | exact HB.out))); (case aF => exact (fun k_ hk => Kd.fresh' (Kd.R_lt (by (with_reducible repeat (first | apply Kd.R_alloc | apply Kd.R_drewN | apply Kd.R_drew)); exact HO208.out)) k_ hk)); (case aO => exact (by (with_reducible repeat (first | apply Kd.R_alloc | apply Kd.R_drewN | apply Kd.R_drew)); exact Kd.R_mono HO_3.out (fun _ hk => by first | exact hk.2 | exact hk | exact trivial))); (case aS => exact (below_size (by repeat (first | (with_reducible first | exact HB.out | apply below_alloc | apply pw_below_drewN | apply below_drew1 | refine below_set ?_ GE178.out) | exact HB.out)))); (case aL => have := LMc34.out; omega); intro v210 w37 ho hb hg hat; rw [← Ny209.out] at ho; have n0_ := Aside0.mk (blk_grown (g := gb178) (o := .cells #[.int .u32 a0_0, .int .u32 a0_1, .int .u64 a0_2, .int .u64 a0_3, .int .u64 a0_4, .int .u64 a0_5, .int .u64 a0_6, .int .u64 a0_7, .int .u64 a0_8] 26 (0, 0)) (by (with_reducible repeat (first | refine blk_drewN ?_ _ | refine blk_drew ?_ | refine blk_alloc ?_ _)); exact BK178.out) hg (Kd.R_ne HO_3.out BK178.out (by decide))); have n1_ := Aside0.mk (Kd.R_after (ok := (fun _ => True)) (by (with_reducible repeat (first | apply Kd.R_alloc | apply Kd.R_drewN | apply Kd.R_drew)); exact HO208.out) hg hat); have n2_ := Aside0.mk (hb); have n3_ := Aside0.mk (ho); clear BK178; clear HO208; clear HB; clear HO_3; have BK178 := n0_; have HO208 := n1_; have HB := n2_; have HO211 := n3_; clear n0_ n1_ n2_ n3_; clear ho hb hg hat))
          go_roundg k1
          case measure => have := HK1.out; omega
          case rel => exact ⟨(y209), (3), (by first | rfl | (simp; done) | (simp [*]; done)), H', ⟨by have := HK1.out; omega⟩, ⟨by (with_reducible repeat (first | apply Kd.R_alloc | apply Kd.R_drewN | apply Kd.R_drew)); exact Kd.R_mono HO211.out (fun _ hk => trivial)⟩, ⟨by (with_reducible repeat (first | refine blk_drewN ?_ _ | refine blk_drew ?_ | refine blk_alloc ?_ _)); exact BK178.out⟩, ⟨by repeat (first | (with_reducible first | exact HB.out | apply below_alloc | apply pw_below_drewN | apply below_drew1 | refine below_set ?_ GE178.out) | exact HB.out)⟩⟩
         ·rw [if_neg c34] at H
          exact absurd H (by simp)
        ·rw [if_neg c32] at H
         clear c32
         by_cases c39 : x4_1 = 3
         ·rw [if_pos c39] at H
          subst c39
          replace H := Option.bind_eq_some_iff.mp H
          obtain ⟨t212, A400, H⟩ := H
          replace H : (if x3_1.length + t212.length < 140737488355328 then (fairleadref04_Bytes.l0 k1 (x3_1 ++ t212) 4 a0_0 a0_1 a0_2 a0_3 a0_4 a0_5 a0_6 a0_7 a0_8) else (none)) = some r := H
          have A40 := Aside0.mk A400
          clear A400
          by_cases c41 : x3_1.length + t212.length < 140737488355328
          ·rw [if_pos c41] at H
           have LMc41 := Aside0.mk c41
           clear c41
           obtain ⟨y215, hy215⟩ : ∃ y_ : List Int, y_ = (x3_1 ++ t212) := ⟨_, rfl⟩
           replace H : (fairleadref04_Bytes.l0 k1 y215 4 a0_0 a0_1 a0_2 a0_3 a0_4 a0_5 a0_6 a0_7 a0_8) = some r := by first | (rw [hy215]; with_reducible exact H) | (have H2_ := (Option.bind_some _ _).symm.trans H; rw [hy215]; with_reducible exact H2_) | (have H2_ := (Option.bind_some _ _).symm.trans H; with_reducible exact H2_) | with_reducible exact H | (rw [hy215]; exact H) | exact H
           have Ny215 := Aside0.mk hy215
           clear hy215
           have H' := Aside0.mk H
           clear H
           have hcz42_0 : wr.cell? ⟨gb178, 0, none⟩ = some (.int .u32 a0_0) := (blk_cell BK178.out 0).trans rfl
           have hcz42_1 : wr.cell? ⟨gb178, 1, none⟩ = some (.int .u32 a0_1) := (blk_cell BK178.out 1).trans rfl
           have hcz42_2 : wr.cell? ⟨gb178, 2, none⟩ = some (.int .u64 a0_2) := (blk_cell BK178.out 2).trans rfl
           have hcz42_3 : wr.cell? ⟨gb178, 3, none⟩ = some (.int .u64 a0_3) := (blk_cell BK178.out 3).trans rfl
           have hcz42_4 : wr.cell? ⟨gb178, 4, none⟩ = some (.int .u64 a0_4) := (blk_cell BK178.out 4).trans rfl
           have hcz42_5 : wr.cell? ⟨gb178, 5, none⟩ = some (.int .u64 a0_5) := (blk_cell BK178.out 5).trans rfl
           have hcz42_6 : wr.cell? ⟨gb178, 6, none⟩ = some (.int .u64 a0_6) := (blk_cell BK178.out 6).trans rfl
           have hcz42_7 : wr.cell? ⟨gb178, 7, none⟩ = some (.int .u64 a0_7) := (blk_cell BK178.out 7).trans rfl
           have hcz42_8 : wr.cell? ⟨gb178, 8, none⟩ = some (.int .u64 a0_8) := (blk_cell BK178.out 8).trans rfl
           have hfz42_0 := blk_frozen BK178.out 0
           have hfz42_1 := blk_frozen BK178.out 1
           have hfz42_2 := blk_frozen BK178.out 2
           have hfz42_3 := blk_frozen BK178.out 3
           have hfz42_4 := blk_frozen BK178.out 4
           have hfz42_5 := blk_frozen BK178.out 5
           have hfz42_6 := blk_frozen BK178.out 6
           have hfz42_7 := blk_frozen BK178.out 7
           have hfz42_8 := blk_frozen BK178.out 8
           go_wp2_with (first | ((with_reducible refine gate_callee (f := 21) rfl ?_); refine goesL_ (some 28) rfl rfl Try.func21 (by kernel_rfl) rfl #[.int .u64 a0_6, .int .i64 8] rfl (by (try simp only [List.map_toArray, List.map_cons, List.map_nil]); first | done | rfl | (simp only [List.length_drop, List.length_take]; rfl)) ?_; (with_reducible refine (fairleadref04_low.calls k1 a0_6 8 t212 _ A40.out).mono ?_); rintro e w43 ⟨v213, rfl, ho0, hb⟩; refine ⟨_, rfl, ?_⟩; have n0_ := Aside0.mk (Kd.R_elder' (by (with_reducible repeat (first | apply Kd.R_alloc | apply Kd.R_drewN | apply Kd.R_drew)); exact HO_3.out) (Kd.R_base ho0) hb); have n1_ := Aside0.mk (Kd.R_lower (Kd.R_new' ho0 (Kd.R_lt (by (with_reducible repeat (first | apply Kd.R_alloc | apply Kd.R_drewN | apply Kd.R_drew)); exact HO_3.out))) (below_size (by repeat (first | (with_reducible first | exact HB.out | apply below_alloc | apply pw_below_drewN | apply below_drew1 | refine below_set ?_ GE178.out) | exact HB.out)))); have n2_ := Aside0.mk (blk_below (g := gb178) (o := .cells #[.int .u32 a0_0, .int .u32 a0_1, .int .u64 a0_2, .int .u64 a0_3, .int .u64 a0_4, .int .u64 a0_5, .int .u64 a0_6, .int .u64 a0_7, .int .u64 a0_8] 26 (0, 0)) (by (with_reducible repeat (first | refine blk_drewN ?_ _ | refine blk_drew ?_ | refine blk_alloc ?_ _)); exact BK178.out) hb); have n3_ := Aside0.mk (below_step (by repeat (first | (with_reducible first | exact HB.out | apply below_alloc | apply pw_below_drewN | apply below_drew1 | refine below_set ?_ GE178.out) | exact HB.out)) hb); clear HO_3; clear BK178; clear HB; have HO_3 := n0_; have HO214 := n1_; have BK178 := n2_; have HB := n3_; clear n0_ n1_ n2_ n3_; (try clear hb); (try clear hb2); (try clear hk); (try clear hi); (try clear ho0); obtain ⟨Ao45, co45, eo45⟩ := Kd.R_slice HO214.out; subst eo45) | ((with_reducible refine gate_builtin (b := .append) (xs := #[.tmp 23, .tmp 28]) rfl ?_); at_builtin; refine Kd.R_append_rows (Kd.int .u8) (w0 := w) w.heap.size rfl (.tmp 23) (.tmp 28) 28 5 (.int .u8 0) 1 rfl Try.underlying28 info5 rfl (by decide) (by omega) u3 x3_1 t212 _ _ _ (fun k_ => some k_ ≠ (.slice Ao45 t212.length co45 : Value).ownBlock) (fun _ => False) rfl rfl ?aO ?aR (fun _ _ h => h) (fun _ h => h.elim) ?aF ?aB ?aS ?aL ?_; (case aR => repeat (first | exact (Kd.R_reads' HO214.out).2.2 | (with_reducible refine Kd.C_alloc ?_ _) | (with_reducible refine Kd.C_drewN ?_ _) | (with_reducible refine Kd.C_drew ?_))); (case aB => exact (by repeat (first | (with_reducible first | exact HB.out | apply below_alloc | apply pw_below_drewN | apply below_drew1 | refine below_set ?_ GE178.out) | exact HB.out))); (case aF => exact (fun k_ hk => Kd.fresh' (Kd.R_lt (by (with_reducible repeat (first | apply Kd.R_alloc | apply Kd.R_drewN | apply Kd.R_drew)); exact HO214.out)) k_ hk)); (case aO => exact (by (with_reducible repeat (first | apply Kd.R_alloc | apply Kd.R_drewN | apply Kd.R_drew)); exact Kd.R_mono HO_3.out (fun _ hk => by first | exact hk.2 | exact hk | exact trivial))); (case aS => exact (below_size (by repeat (first | (with_reducible first | exact HB.out | apply below_alloc | apply pw_below_drewN | apply below_drew1 | refine below_set ?_ GE178.out) | exact HB.out)))); (case aL => have := LMc41.out; omega); intro v216 w44 ho hb hg hat; rw [← Ny215.out] at ho; have n0_ := Aside0.mk (blk_grown (g := gb178) (o := .cells #[.int .u32 a0_0, .int .u32 a0_1, .int .u64 a0_2, .int .u64 a0_3, .int .u64 a0_4, .int .u64 a0_5, .int .u64 a0_6, .int .u64 a0_7, .int .u64 a0_8] 26 (0, 0)) (by (with_reducible repeat (first | refine blk_drewN ?_ _ | refine blk_drew ?_ | refine blk_alloc ?_ _)); exact BK178.out) hg (Kd.R_ne HO_3.out BK178.out (by decide))); have n1_ := Aside0.mk (Kd.R_after (ok := (fun _ => True)) (by (with_reducible repeat (first | apply Kd.R_alloc | apply Kd.R_drewN | apply Kd.R_drew)); exact HO214.out) hg hat); have n2_ := Aside0.mk (hb); have n3_ := Aside0.mk (ho); clear BK178; clear HO214; clear HB; clear HO_3; have BK178 := n0_; have HO214 := n1_; have HB := n2_; have HO217 := n3_; clear n0_ n1_ n2_ n3_; clear ho hb hg hat))
           go_roundg k1
           case measure => have := HK1.out; omega
           case rel => exact ⟨(y215), (4), (by first | rfl | (simp; done) | (simp [*]; done)), H', ⟨by have := HK1.out; omega⟩, ⟨by (with_reducible repeat (first | apply Kd.R_alloc | apply Kd.R_drewN | apply Kd.R_drew)); exact Kd.R_mono HO217.out (fun _ hk => trivial)⟩, ⟨by (with_reducible repeat (first | refine blk_drewN ?_ _ | refine blk_drew ?_ | refine blk_alloc ?_ _)); exact BK178.out⟩, ⟨by repeat (first | (with_reducible first | exact HB.out | apply below_alloc | apply pw_below_drewN | apply below_drew1 | refine below_set ?_ GE178.out) | exact HB.out)⟩⟩
          ·rw [if_neg c41] at H
           exact absurd H (by simp)
         ·rw [if_neg c39] at H
          clear c39
          by_cases c46 : x4_1 = 4
          ·rw [if_pos c46] at H
           subst c46
           replace H := Option.bind_eq_some_iff.mp H
           obtain ⟨t218, A470, H⟩ := H
           replace H : (if x3_1.length + t218.length < 140737488355328 then (fairleadref04_Bytes.l0 k1 (x3_1 ++ t218) 5 a0_0 a0_1 a0_2 a0_3 a0_4 a0_5 a0_6 a0_7 a0_8) else (none)) = some r := H
           have A47 := Aside0.mk A470
           clear A470
           by_cases c48 : x3_1.length + t218.length < 140737488355328
           ·rw [if_pos c48] at H
            have LMc48 := Aside0.mk c48
            clear c48
            obtain ⟨y221, hy221⟩ : ∃ y_ : List Int, y_ = (x3_1 ++ t218) := ⟨_, rfl⟩
            replace H : (fairleadref04_Bytes.l0 k1 y221 5 a0_0 a0_1 a0_2 a0_3 a0_4 a0_5 a0_6 a0_7 a0_8) = some r := by first | (rw [hy221]; with_reducible exact H) | (have H2_ := (Option.bind_some _ _).symm.trans H; rw [hy221]; with_reducible exact H2_) | (have H2_ := (Option.bind_some _ _).symm.trans H; with_reducible exact H2_) | with_reducible exact H | (rw [hy221]; exact H) | exact H
            have Ny221 := Aside0.mk hy221
            clear hy221
            have H' := Aside0.mk H
            clear H
            have hcz49_0 : wr.cell? ⟨gb178, 0, none⟩ = some (.int .u32 a0_0) := (blk_cell BK178.out 0).trans rfl
            have hcz49_1 : wr.cell? ⟨gb178, 1, none⟩ = some (.int .u32 a0_1) := (blk_cell BK178.out 1).trans rfl
            have hcz49_2 : wr.cell? ⟨gb178, 2, none⟩ = some (.int .u64 a0_2) := (blk_cell BK178.out 2).trans rfl
            have hcz49_3 : wr.cell? ⟨gb178, 3, none⟩ = some (.int .u64 a0_3) := (blk_cell BK178.out 3).trans rfl
            have hcz49_4 : wr.cell? ⟨gb178, 4, none⟩ = some (.int .u64 a0_4) := (blk_cell BK178.out 4).trans rfl
            have hcz49_5 : wr.cell? ⟨gb178, 5, none⟩ = some (.int .u64 a0_5) := (blk_cell BK178.out 5).trans rfl
            have hcz49_6 : wr.cell? ⟨gb178, 6, none⟩ = some (.int .u64 a0_6) := (blk_cell BK178.out 6).trans rfl
            have hcz49_7 : wr.cell? ⟨gb178, 7, none⟩ = some (.int .u64 a0_7) := (blk_cell BK178.out 7).trans rfl
            have hcz49_8 : wr.cell? ⟨gb178, 8, none⟩ = some (.int .u64 a0_8) := (blk_cell BK178.out 8).trans rfl
            have hfz49_0 := blk_frozen BK178.out 0
            have hfz49_1 := blk_frozen BK178.out 1
            have hfz49_2 := blk_frozen BK178.out 2
            have hfz49_3 := blk_frozen BK178.out 3
            have hfz49_4 := blk_frozen BK178.out 4
            have hfz49_5 := blk_frozen BK178.out 5
            have hfz49_6 := blk_frozen BK178.out 6
            have hfz49_7 := blk_frozen BK178.out 7
            have hfz49_8 := blk_frozen BK178.out 8
            go_wp2_with (first | ((with_reducible refine gate_callee (f := 21) rfl ?_); refine goesL_ (some 28) rfl rfl Try.func21 (by kernel_rfl) rfl #[.int .u64 a0_7, .int .i64 8] rfl (by (try simp only [List.map_toArray, List.map_cons, List.map_nil]); first | done | rfl | (simp only [List.length_drop, List.length_take]; rfl)) ?_; (with_reducible refine (fairleadref04_low.calls k1 a0_7 8 t218 _ A47.out).mono ?_); rintro e w50 ⟨v219, rfl, ho0, hb⟩; refine ⟨_, rfl, ?_⟩; have n0_ := Aside0.mk (Kd.R_elder' (by (with_reducible repeat (first | apply Kd.R_alloc | apply Kd.R_drewN | apply Kd.R_drew)); exact HO_3.out) (Kd.R_base ho0) hb); have n1_ := Aside0.mk (Kd.R_lower (Kd.R_new' ho0 (Kd.R_lt (by (with_reducible repeat (first | apply Kd.R_alloc | apply Kd.R_drewN | apply Kd.R_drew)); exact HO_3.out))) (below_size (by repeat (first | (with_reducible first | exact HB.out | apply below_alloc | apply pw_below_drewN | apply below_drew1 | refine below_set ?_ GE178.out) | exact HB.out)))); have n2_ := Aside0.mk (blk_below (g := gb178) (o := .cells #[.int .u32 a0_0, .int .u32 a0_1, .int .u64 a0_2, .int .u64 a0_3, .int .u64 a0_4, .int .u64 a0_5, .int .u64 a0_6, .int .u64 a0_7, .int .u64 a0_8] 26 (0, 0)) (by (with_reducible repeat (first | refine blk_drewN ?_ _ | refine blk_drew ?_ | refine blk_alloc ?_ _)); exact BK178.out) hb); have n3_ := Aside0.mk (below_step (by repeat (first | (with_reducible first | exact HB.out | apply below_alloc | apply pw_below_drewN | apply below_drew1 | refine below_set ?_ GE178.out) | exact HB.out)) hb); clear HO_3; clear BK178; clear HB; have HO_3 := n0_; have HO220 := n1_; have BK178 := n2_; have HB := n3_; clear n0_ n1_ n2_ n3_; (try clear hb); (try clear hb2); (try clear hk); (try clear hi); (try clear ho0); obtain ⟨Ao52, co52, eo52⟩ := Kd.R_slice HO220.out; subst eo52) | ((with_reducible refine gate_builtin (b := .append) (xs := #[.tmp 23, .tmp 28]) rfl ?_); at_builtin; refine Kd.R_append_rows (Kd.int .u8) (w0 := w) w.heap.size rfl (.tmp 23) (.tmp 28) 28 5 (.int .u8 0) 1 rfl Try.underlying28 info5 rfl (by decide) (by omega) u3 x3_1 t218 _ _ _ (fun k_ => some k_ ≠ (.slice Ao52 t218.length co52 : Value).ownBlock) (fun _ => False) rfl rfl ?aO ?aR (fun _ _ h => h) (fun _ h => h.elim) ?aF ?aB ?aS ?aL ?_; (case aR => repeat (first | exact (Kd.R_reads' HO220.out).2.2 | (with_reducible refine Kd.C_alloc ?_ _) | (with_reducible refine Kd.C_drewN ?_ _) | (with_reducible refine Kd.C_drew ?_))); (case aB => exact (by repeat (first | (with_reducible first | exact HB.out | apply below_alloc | apply pw_below_drewN | apply below_drew1 | refine below_set ?_ GE178.out) | exact HB.out))); (case aF => exact (fun k_ hk => Kd.fresh' (Kd.R_lt (by (with_reducible repeat (first | apply Kd.R_alloc | apply Kd.R_drewN | apply Kd.R_drew)); exact HO220.out)) k_ hk)); (case aO => exact (by (with_reducible repeat (first | apply Kd.R_alloc | apply Kd.R_drewN | apply Kd.R_drew)); exact Kd.R_mono HO_3.out (fun _ hk => by first | exact hk.2 | exact hk | exact trivial))); (case aS => exact (below_size (by repeat (first | (with_reducible first | exact HB.out | apply below_alloc | apply pw_below_drewN | apply below_drew1 | refine below_set ?_ GE178.out) | exact HB.out)))); (case aL => have := LMc48.out; omega); intro v222 w51 ho hb hg hat; rw [← Ny221.out] at ho; have n0_ := Aside0.mk (blk_grown (g := gb178) (o := .cells #[.int .u32 a0_0, .int .u32 a0_1, .int .u64 a0_2, .int .u64 a0_3, .int .u64 a0_4, .int .u64 a0_5, .int .u64 a0_6, .int .u64 a0_7, .int .u64 a0_8] 26 (0, 0)) (by (with_reducible repeat (first | refine blk_drewN ?_ _ | refine blk_drew ?_ | refine blk_alloc ?_ _)); exact BK178.out) hg (Kd.R_ne HO_3.out BK178.out (by decide))); have n1_ := Aside0.mk (Kd.R_after (ok := (fun _ => True)) (by (with_reducible repeat (first | apply Kd.R_alloc | apply Kd.R_drewN | apply Kd.R_drew)); exact HO220.out) hg hat); have n2_ := Aside0.mk (hb); have n3_ := Aside0.mk (ho); clear BK178; clear HO220; clear HB; clear HO_3; have BK178 := n0_; have HO220 := n1_; have HB := n2_; have HO223 := n3_; clear n0_ n1_ n2_ n3_; clear ho hb hg hat))
            go_roundg k1
            case measure => have := HK1.out; omega
            case rel => exact ⟨(y221), (5), (by first | rfl | (simp; done) | (simp [*]; done)), H', ⟨by have := HK1.out; omega⟩, ⟨by (with_reducible repeat (first | apply Kd.R_alloc | apply Kd.R_drewN | apply Kd.R_drew)); exact Kd.R_mono HO223.out (fun _ hk => trivial)⟩, ⟨by (with_reducible repeat (first | refine blk_drewN ?_ _ | refine blk_drew ?_ | refine blk_alloc ?_ _)); exact BK178.out⟩, ⟨by repeat (first | (with_reducible first | exact HB.out | apply below_alloc | apply pw_below_drewN | apply below_drew1 | refine below_set ?_ GE178.out) | exact HB.out)⟩⟩
           ·rw [if_neg c48] at H
            exact absurd H (by simp)
          ·rw [if_neg c46] at H
           clear c46
           by_cases c53 : x4_1 = 5
           ·rw [if_pos c53] at H
            subst c53
            replace H := Option.bind_eq_some_iff.mp H
            obtain ⟨t224, A540, H⟩ := H
            replace H : (if x3_1.length + t224.length < 140737488355328 then (fairleadref04_Bytes.l0 k1 (x3_1 ++ t224) 6 a0_0 a0_1 a0_2 a0_3 a0_4 a0_5 a0_6 a0_7 a0_8) else (none)) = some r := H
            have A54 := Aside0.mk A540
            clear A540
            by_cases c55 : x3_1.length + t224.length < 140737488355328
            ·rw [if_pos c55] at H
             have LMc55 := Aside0.mk c55
             clear c55
             obtain ⟨y227, hy227⟩ : ∃ y_ : List Int, y_ = (x3_1 ++ t224) := ⟨_, rfl⟩
             replace H : (fairleadref04_Bytes.l0 k1 y227 6 a0_0 a0_1 a0_2 a0_3 a0_4 a0_5 a0_6 a0_7 a0_8) = some r := by first | (rw [hy227]; with_reducible exact H) | (have H2_ := (Option.bind_some _ _).symm.trans H; rw [hy227]; with_reducible exact H2_) | (have H2_ := (Option.bind_some _ _).symm.trans H; with_reducible exact H2_) | with_reducible exact H | (rw [hy227]; exact H) | exact H
             have Ny227 := Aside0.mk hy227
             clear hy227
             have H' := Aside0.mk H
             clear H
             have hcz56_0 : wr.cell? ⟨gb178, 0, none⟩ = some (.int .u32 a0_0) := (blk_cell BK178.out 0).trans rfl
             have hcz56_1 : wr.cell? ⟨gb178, 1, none⟩ = some (.int .u32 a0_1) := (blk_cell BK178.out 1).trans rfl
             have hcz56_2 : wr.cell? ⟨gb178, 2, none⟩ = some (.int .u64 a0_2) := (blk_cell BK178.out 2).trans rfl
             have hcz56_3 : wr.cell? ⟨gb178, 3, none⟩ = some (.int .u64 a0_3) := (blk_cell BK178.out 3).trans rfl
             have hcz56_4 : wr.cell? ⟨gb178, 4, none⟩ = some (.int .u64 a0_4) := (blk_cell BK178.out 4).trans rfl
             have hcz56_5 : wr.cell? ⟨gb178, 5, none⟩ = some (.int .u64 a0_5) := (blk_cell BK178.out 5).trans rfl
             have hcz56_6 : wr.cell? ⟨gb178, 6, none⟩ = some (.int .u64 a0_6) := (blk_cell BK178.out 6).trans rfl
             have hcz56_7 : wr.cell? ⟨gb178, 7, none⟩ = some (.int .u64 a0_7) := (blk_cell BK178.out 7).trans rfl
             have hcz56_8 : wr.cell? ⟨gb178, 8, none⟩ = some (.int .u64 a0_8) := (blk_cell BK178.out 8).trans rfl
             have hfz56_0 := blk_frozen BK178.out 0
             have hfz56_1 := blk_frozen BK178.out 1
             have hfz56_2 := blk_frozen BK178.out 2
             have hfz56_3 := blk_frozen BK178.out 3
             have hfz56_4 := blk_frozen BK178.out 4
             have hfz56_5 := blk_frozen BK178.out 5
             have hfz56_6 := blk_frozen BK178.out 6
             have hfz56_7 := blk_frozen BK178.out 7
             have hfz56_8 := blk_frozen BK178.out 8
             go_wp2_with (first | ((with_reducible refine gate_callee (f := 21) rfl ?_); refine goesL_ (some 28) rfl rfl Try.func21 (by kernel_rfl) rfl #[.int .u64 a0_8, .int .i64 8] rfl (by (try simp only [List.map_toArray, List.map_cons, List.map_nil]); first | done | rfl | (simp only [List.length_drop, List.length_take]; rfl)) ?_; (with_reducible refine (fairleadref04_low.calls k1 a0_8 8 t224 _ A54.out).mono ?_); rintro e w57 ⟨v225, rfl, ho0, hb⟩; refine ⟨_, rfl, ?_⟩; have n0_ := Aside0.mk (Kd.R_elder' (by (with_reducible repeat (first | apply Kd.R_alloc | apply Kd.R_drewN | apply Kd.R_drew)); exact HO_3.out) (Kd.R_base ho0) hb); have n1_ := Aside0.mk (Kd.R_lower (Kd.R_new' ho0 (Kd.R_lt (by (with_reducible repeat (first | apply Kd.R_alloc | apply Kd.R_drewN | apply Kd.R_drew)); exact HO_3.out))) (below_size (by repeat (first | (with_reducible first | exact HB.out | apply below_alloc | apply pw_below_drewN | apply below_drew1 | refine below_set ?_ GE178.out) | exact HB.out)))); have n2_ := Aside0.mk (blk_below (g := gb178) (o := .cells #[.int .u32 a0_0, .int .u32 a0_1, .int .u64 a0_2, .int .u64 a0_3, .int .u64 a0_4, .int .u64 a0_5, .int .u64 a0_6, .int .u64 a0_7, .int .u64 a0_8] 26 (0, 0)) (by (with_reducible repeat (first | refine blk_drewN ?_ _ | refine blk_drew ?_ | refine blk_alloc ?_ _)); exact BK178.out) hb); have n3_ := Aside0.mk (below_step (by repeat (first | (with_reducible first | exact HB.out | apply below_alloc | apply pw_below_drewN | apply below_drew1 | refine below_set ?_ GE178.out) | exact HB.out)) hb); clear HO_3; clear BK178; clear HB; have HO_3 := n0_; have HO226 := n1_; have BK178 := n2_; have HB := n3_; clear n0_ n1_ n2_ n3_; (try clear hb); (try clear hb2); (try clear hk); (try clear hi); (try clear ho0); obtain ⟨Ao59, co59, eo59⟩ := Kd.R_slice HO226.out; subst eo59) | ((with_reducible refine gate_builtin (b := .append) (xs := #[.tmp 23, .tmp 28]) rfl ?_); at_builtin; refine Kd.R_append_rows (Kd.int .u8) (w0 := w) w.heap.size rfl (.tmp 23) (.tmp 28) 28 5 (.int .u8 0) 1 rfl Try.underlying28 info5 rfl (by decide) (by omega) u3 x3_1 t224 _ _ _ (fun k_ => some k_ ≠ (.slice Ao59 t224.length co59 : Value).ownBlock) (fun _ => False) rfl rfl ?aO ?aR (fun _ _ h => h) (fun _ h => h.elim) ?aF ?aB ?aS ?aL ?_; (case aR => repeat (first | exact (Kd.R_reads' HO226.out).2.2 | (with_reducible refine Kd.C_alloc ?_ _) | (with_reducible refine Kd.C_drewN ?_ _) | (with_reducible refine Kd.C_drew ?_))); (case aB => exact (by repeat (first | (with_reducible first | exact HB.out | apply below_alloc | apply pw_below_drewN | apply below_drew1 | refine below_set ?_ GE178.out) | exact HB.out))); (case aF => exact (fun k_ hk => Kd.fresh' (Kd.R_lt (by (with_reducible repeat (first | apply Kd.R_alloc | apply Kd.R_drewN | apply Kd.R_drew)); exact HO226.out)) k_ hk)); (case aO => exact (by (with_reducible repeat (first | apply Kd.R_alloc | apply Kd.R_drewN | apply Kd.R_drew)); exact Kd.R_mono HO_3.out (fun _ hk => by first | exact hk.2 | exact hk | exact trivial))); (case aS => exact (below_size (by repeat (first | (with_reducible first | exact HB.out | apply below_alloc | apply pw_below_drewN | apply below_drew1 | refine below_set ?_ GE178.out) | exact HB.out)))); (case aL => have := LMc55.out; omega); intro v228 w58 ho hb hg hat; rw [← Ny227.out] at ho; have n0_ := Aside0.mk (blk_grown (g := gb178) (o := .cells #[.int .u32 a0_0, .int .u32 a0_1, .int .u64 a0_2, .int .u64 a0_3, .int .u64 a0_4, .int .u64 a0_5, .int .u64 a0_6, .int .u64 a0_7, .int .u64 a0_8] 26 (0, 0)) (by (with_reducible repeat (first | refine blk_drewN ?_ _ | refine blk_drew ?_ | refine blk_alloc ?_ _)); exact BK178.out) hg (Kd.R_ne HO_3.out BK178.out (by decide))); have n1_ := Aside0.mk (Kd.R_after (ok := (fun _ => True)) (by (with_reducible repeat (first | apply Kd.R_alloc | apply Kd.R_drewN | apply Kd.R_drew)); exact HO226.out) hg hat); have n2_ := Aside0.mk (hb); have n3_ := Aside0.mk (ho); clear BK178; clear HO226; clear HB; clear HO_3; have BK178 := n0_; have HO226 := n1_; have HB := n2_; have HO229 := n3_; clear n0_ n1_ n2_ n3_; clear ho hb hg hat))
             go_roundg k1
             case measure => have := HK1.out; omega
             case rel => exact ⟨(y227), (6), (by first | rfl | (simp; done) | (simp [*]; done)), H', ⟨by have := HK1.out; omega⟩, ⟨by (with_reducible repeat (first | apply Kd.R_alloc | apply Kd.R_drewN | apply Kd.R_drew)); exact Kd.R_mono HO229.out (fun _ hk => trivial)⟩, ⟨by (with_reducible repeat (first | refine blk_drewN ?_ _ | refine blk_drew ?_ | refine blk_alloc ?_ _)); exact BK178.out⟩, ⟨by repeat (first | (with_reducible first | exact HB.out | apply below_alloc | apply pw_below_drewN | apply below_drew1 | refine below_set ?_ GE178.out) | exact HB.out)⟩⟩
            ·rw [if_neg c55] at H
             exact absurd H (by simp)
           ·rw [if_neg c53] at H
            exact absurd H (by simp)
     ·rw [if_neg c17] at H
      have c17b0 : decide (x4_1 < 6) = false := decide_eq_false c17
      clear c17
      obtain rfl := Option.some.inj H
      go_wp2
      go_ret
      exact ⟨_, by first | rfl | (simp [errW_none, errW_some] <;> rfl) | (simp [*, errW_none, errW_some] <;> rfl), by (with_reducible repeat (first | apply Kd.R_alloc | apply Kd.R_drewN | apply Kd.R_drew)); exact HO_3.out, by repeat (first | (with_reducible first | exact HB.out | apply below_alloc | apply pw_below_drewN | apply below_drew1 | refine below_set ?_ GE178.out) | exact HB.out)⟩
  ·rw [if_neg c6] at H
   exact absurd H (by simp)
 ·rw [if_neg c4] at H
  exact absurd H (by simp)

/-! ### fairleadref04_number: function 19 -/
def fairleadref04_number.l0 : Nat → List Int → Int → Int → Option (Int)
 | 0, _, _, _ => none
 | k + 1, x0, x3, x4 => if x4 ≥ 0 then (if 0 ≤ x4 then (if x4 < (x0.length : Int) then (fairleadref04_number.l0 k x0 (IntKind.u64.wrap ((IntKind.u64.wrap (x3 * 256)) + (IntKind.u64.wrap (rd x0 x4)))) (wrap64 (x4 - 1))) else (none)) else (none)) else (some x3)
def fairleadref04_number.f (k : Nat) (l0 : List Int) : Option (Int) := fairleadref04_number.l0 k l0 0 (wrap64 ((l0.length : Int) - 1))
theorem fairleadref04_number.mono_l : ∀ k, (∀ y0 y1 y2, LeO (fairleadref04_number.l0 k y0 y1 y2) (fairleadref04_number.l0 (k + 1) y0 y1 y2))
 | 0 => fun _ _ _ r h => by simp [fairleadref04_number.l0] at h
 | k + 1 => by
  have ih0 := fairleadref04_number.mono_l k
  ·intro y0 y1 y2
   unfold fairleadref04_number.l0
   repeat' first
   | (with_reducible exact ih0 _ _ _)
   | (with_reducible exact LeO.refl _)
   | (with_reducible exact LeO.none _)
   | (with_reducible refine LeO.ite ?_ ?_)
   | (with_reducible refine LeO.bind ?_ (fun _ => ?_))
   | exact ih0 _ _ _
   | exact LeO.none _
   | refine LeO.ite ?_ ?_
   | refine LeO.bind ?_ (fun _ => ?_)
theorem fairleadref04_number.mono : ∀ a0 k, LeO (fairleadref04_number.f k a0) (fairleadref04_number.f (k + 1) a0) := by
 intro a0 k
 have ih0 := fairleadref04_number.mono_l k
 unfold fairleadref04_number.f
 repeat' first
   | (with_reducible exact ih0 _ _ _)
   | (with_reducible exact LeO.refl _)
   | (with_reducible exact LeO.none _)
   | (with_reducible refine LeO.ite ?_ ?_)
   | (with_reducible refine LeO.bind ?_ (fun _ => ?_))
   | exact ih0 _ _ _
   | exact LeO.none _
   | refine LeO.ite ?_ ?_
   | refine LeO.bind ?_ (fun _ => ?_)
set_option maxHeartbeats 8000000 in
set_option maxRecDepth 100000 in
theorem fairleadref04_number.calls (k : Nat) (A0 : Option Addr) (c0 : Nat) (l0 : List Int) (r : Int) (w : World) (hr0 : Kd.C (Kd.int .u8) w A0 l0.length l0) (hc0 : l0.length ≤ c0) (h : fairleadref04_number.f k l0 = some r) :
  Calls Try.prog 19 #[.slice A0 l0.length c0] w fun e w' => e = .returned (.int .u64 r) ∧ Drawn0 w w' := by
 have HR0 := Aside0.mk hr0
 have HC0 := Aside0.mk hc0
 clear hr0 hc0
 have H : (fairleadref04_number.l0 k l0 0 (wrap64 ((l0.length : Int) - 1))) = some r := h
 clear h
 have H' := Aside0.mk H
 clear H
 go_enter Try.func19, Try.ntmps19
 go_wp2
 go_loopg [3, 4] k (fun kq v3 v4 w' => ∃ (x3_1 : Int) (x4_1 : Int), v3 = .int .u64 x3_1 ∧ v4 = .int .i64 x4_1 ∧ Aside0 (fairleadref04_number.l0 kq l0 x3_1 x4_1 = some r) ∧ Aside0 (kq ≤ k) ∧ Drawn0 w w')
 case atStart => exact ⟨(0), (wrap64 ((l0.length : Int) - 1)), (by first | rfl | (simp; done) | (simp [*]; done)), (by first | rfl | (simp; done) | (simp [*]; done)), H', ⟨Nat.le_refl _⟩, by repeat (first | exact Drawn0.refl _ | apply Drawn0.step)⟩
 case round =>
  clear H'
  try clear c1
  obtain ⟨x3_1, x4_1, rfl, rfl, HA, HK1, ⟨m1, rfl⟩⟩ := hrel
  cases gk with
  | zero => exact absurd HA.out (by simp [fairleadref04_number.l0])
  | succ k1 =>
   have H := HA.out
   clear HA
   simp only [fairleadref04_number.l0] at H
   by_cases c2 : x4_1 ≥ 0
   ·rw [if_pos c2] at H
    have c2b0 : decide (0 ≤ x4_1) = true := decide_eq_true c2
    clear c2
    by_cases c3 : 0 ≤ x4_1
    ·rw [if_pos c3] at H
     have c3b0 : decide (0 ≤ x4_1) = true := decide_eq_true c3
     clear c3
     by_cases c4 : x4_1 < (l0.length : Int)
     ·rw [if_pos c4] at H
      have c4b0 : decide (x4_1 < (l0.length : Int)) = true := decide_eq_true c4
      clear c4
      have H' := Aside0.mk H
      clear H
      have p230 : 0 ≤ (x4_1 : Int) := of_decide_eq_true (by first | (with_reducible assumption) | assumption)
      have q230 : x4_1 < (l0.length : Int) := of_decide_eq_true (by first | (with_reducible assumption) | assumption)
      obtain ⟨ad230, e230, hx230_0⟩ := Kd.at_int HR0.out x4_1 p230 q230
      cases e230
      replace p230 := eq_true p230
      replace q230 := eq_true q230
      go_wp2
      go_roundg k1
      case measure => have := HK1.out; omega
      case rel => exact ⟨(IntKind.u64.wrap ((IntKind.u64.wrap (x3_1 * 256)) + (IntKind.u64.wrap (rd l0 x4_1)))), (wrap64 (x4_1 - 1)), (by first | rfl | (simp; done) | (simp [*]; done)), (by first | rfl | (simp; done) | (simp [*]; done)), H', ⟨by have := HK1.out; omega⟩, by repeat (first | exact Drawn0.refl _ | apply Drawn0.step)⟩
     ·rw [if_neg c4] at H
      exact absurd H (by simp)
    ·rw [if_neg c3] at H
     exact absurd H (by simp)
   ·rw [if_neg c2] at H
    have c2b0 : decide (0 ≤ x4_1) = false := decide_eq_false c2
    clear c2
    obtain rfl := Option.some.inj H
    go_wp2
    go_ret
    exact ⟨by first | rfl | (simp; done) | (simp [*]; done), by repeat (first | exact Drawn0.refl _ | apply Drawn0.step)⟩

end Go.Proofs.Ytkbdbphcdehmhaa.M
