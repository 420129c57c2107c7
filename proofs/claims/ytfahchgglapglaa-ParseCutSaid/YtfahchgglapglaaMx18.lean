-- Laid by a program (wip/tools/myprint.py) out of the loaded program's own print: for each Go function a Lean function and the proof of its contract.
import Derived.Test.YtfahchgglapglaaMx0
import Derived.Test.YtfahchgglapglaaMx5
import Derived.Test.YtfahchgglapglaaMx10
import Derived.Test.YtfahchgglapglaaMx11
namespace Go.Proofs.Ytfahchgglapglaa.M
open Go.RowKit Go.Proofs.YtfahchgglapglaaW.PrintWords Go.Proofs.YtfahchgglapglaaW.PrintLast Go.Proofs.YtfahchgglapglaaW.PrintMore
attribute [local go_sem] max2_int min2_int max_two min_two max_three min_three max_four min_four   -- for this text's walks alone
set_option linter.unusedVariables false
set_option linter.unusedSimpArgs false

/-! ### fairleadlaw10_ParseCut: function 5 -/
def fairleadlaw10_ParseCut.j0 : Nat → ByteArray → Bool → Int → List (S39) → Int → Bool → Option (Bool)
 | 0, _, _, _, _, _, _ => none
 | k + 1, x0, x3, x5, x7, x8, x35 => if x35 = true then (if x3 = true then (if x5 = x8 then (some true) else (some (x8 == 0))) else (some false)) else (if (x7.length : Int) < 2 then (some false) else (if 0 ≤ (wrap64 ((x7.length : Int) - 2)) then (if (wrap64 ((x7.length : Int) - 2)) < (x7.length : Int) then (if ((rd_T39 x7 (wrap64 ((x7.length : Int) - 2))).f2).toList = ([59] : List UInt8) then (if 0 ≤ ((rd_T39 x7 (wrap64 ((x7.length : Int) - 2))).f1) then (if ((rd_T39 x7 (wrap64 ((x7.length : Int) - 2))).f1) ≤ (x0.size : Int) then ((parse_Parse.f k (x0.extract 0 (((rd_T39 x7 (wrap64 ((x7.length : Int) - 2))).f1) : Int).toNat)).bind fun bt280 => (if x3 = true then (if bt280.2.2.2.1 = 7 then (if (bt280.2.2.1.length : Int) = 0 then (some (bt280.2.2.2.2 == ((rd_T39 x7 (wrap64 ((x7.length : Int) - 2))).f1))) else (some false)) else (some false)) else (some false))) else (none)) else (none)) else (some false)) else (none)) else (none)))
def fairleadlaw10_ParseCut.f (k : Nat) (a0 : ByteArray) : Option (Bool) := (fairleadlaw10_awake.f k).bind fun t264 => (if (a0.size : Int) > 8192 then (some t264) else ((parse_Parse.f k a0).bind fun bt265 => ((lex_All.f k a0).bind fun bt273 => (if bt265.2.2.2.1 = 0 then (fairleadlaw10_ParseCut.j0 k a0 t264 bt265.2.2.2.1 bt273.1 bt273.2.1 (bt273.2.1 != 0)) else (fairleadlaw10_ParseCut.j0 k a0 t264 bt265.2.2.2.1 bt273.1 bt273.2.1 true)))))
theorem fairleadlaw10_ParseCut.mono_l : ∀ k, (∀ y0 y1 y2 y3 y4 y5, LeO (fairleadlaw10_ParseCut.j0 k y0 y1 y2 y3 y4 y5) (fairleadlaw10_ParseCut.j0 (k + 1) y0 y1 y2 y3 y4 y5))
 | 0 => fun _ _ _ _ _ _ r h => by simp [fairleadlaw10_ParseCut.j0] at h
 | k + 1 => by
  have ih0 := fairleadlaw10_ParseCut.mono_l k
  ·intro y0 y1 y2 y3 y4 y5
   unfold fairleadlaw10_ParseCut.j0
   repeat' first
   | (with_reducible exact ih0 _ _ _ _ _ _)
   | (with_reducible exact fairleadlaw10_awake.mono _)
   | (with_reducible exact lex_All.mono _ _)
   | (with_reducible exact parse_Parse.mono _ _)
   | (with_reducible exact LeO.refl _)
   | (with_reducible exact LeO.none _)
   | (with_reducible refine LeO.ite ?_ ?_)
   | (with_reducible refine LeO.bind ?_ (fun _ => ?_))
   | exact ih0 _ _ _ _ _ _
   | exact fairleadlaw10_awake.mono _
   | exact lex_All.mono _ _
   | exact parse_Parse.mono _ _
   | exact LeO.none _
   | refine LeO.ite ?_ ?_
   | refine LeO.bind ?_ (fun _ => ?_)
theorem fairleadlaw10_ParseCut.mono : ∀ a0 k, LeO (fairleadlaw10_ParseCut.f k a0) (fairleadlaw10_ParseCut.f (k + 1) a0) := by
 intro a0 k
 have ih0 := fairleadlaw10_ParseCut.mono_l k
 unfold fairleadlaw10_ParseCut.f
 repeat' first
   | (with_reducible exact ih0 _ _ _ _ _ _)
   | (with_reducible exact fairleadlaw10_awake.mono _)
   | (with_reducible exact lex_All.mono _ _)
   | (with_reducible exact parse_Parse.mono _ _)
   | (with_reducible exact LeO.refl _)
   | (with_reducible exact LeO.none _)
   | (with_reducible refine LeO.ite ?_ ?_)
   | (with_reducible refine LeO.bind ?_ (fun _ => ?_))
   | exact ih0 _ _ _ _ _ _
   | exact fairleadlaw10_awake.mono _
   | exact lex_All.mono _ _
   | exact parse_Parse.mono _ _
   | exact LeO.none _
   | refine LeO.ite ?_ ?_
   | refine LeO.bind ?_ (fun _ => ?_)
set_option maxHeartbeats 8000000 in
set_option maxRecDepth 100000 in
theorem fairleadlaw10_ParseCut.calls (k : Nat) (a0 : ByteArray) (r : Bool) (w : World) (h : fairleadlaw10_ParseCut.f k a0 = some r) :
  Calls Try.prog 5 #[.string a0] w fun e w' => e = .returned (.bool r) ∧ Below w.heap.size w w' := by
 have hu27 := Try.underlying27
 have HB := Aside0.mk (Below.refl w.heap.size w)
 have H : ((fairleadlaw10_awake.f k).bind fun t264 => (if (a0.size : Int) > 8192 then (some t264) else ((parse_Parse.f k a0).bind fun bt265 => ((lex_All.f k a0).bind fun bt273 => (if bt265.2.2.2.1 = 0 then (fairleadlaw10_ParseCut.j0 k a0 t264 bt265.2.2.2.1 bt273.1 bt273.2.1 (bt273.2.1 != 0)) else (fairleadlaw10_ParseCut.j0 k a0 t264 bt265.2.2.2.1 bt273.1 bt273.2.1 true)))))) = some r := h
 clear h
 replace H := Option.bind_eq_some_iff.mp H
 obtain ⟨t264, A20, H⟩ := H
 replace H : (if (a0.size : Int) > 8192 then (some t264) else ((parse_Parse.f k a0).bind fun bt265 => ((lex_All.f k a0).bind fun bt273 => (if bt265.2.2.2.1 = 0 then (fairleadlaw10_ParseCut.j0 k a0 t264 bt265.2.2.2.1 bt273.1 bt273.2.1 (bt273.2.1 != 0)) else (fairleadlaw10_ParseCut.j0 k a0 t264 bt265.2.2.2.1 bt273.1 bt273.2.1 true))))) = some r := H
 have A2 := Aside0.mk A20
 clear A20
 by_cases c3 : (a0.size : Int) > 8192
 ·rw [if_pos c3] at H
  have c3b0 : decide (8192 < (a0.size : Int)) = true := decide_eq_true c3
  have c3b1 : decide (8192 < a0.size) = true := decide_eq_true (by omega)
  clear c3
  obtain rfl := Option.some.inj H
  go_enter Try.func5, Try.ntmps5
  go_wp2_with (first | ((with_reducible refine gate_callee (f := 9) rfl ?_); refine goesL_ (some 13) rfl rfl Try.func9 (by kernel_rfl) rfl #[] rfl (by (try simp only [List.map_toArray, List.map_cons, List.map_nil]); first | done | rfl | (simp only [List.length_drop, List.length_take]; rfl)) ?_; (with_reducible refine (fairleadlaw10_awake.calls k  t264 _ A2.out).mono ?_); rintro e w4 ⟨rfl, hb⟩; refine ⟨_, rfl, ?_⟩; have n0_ := Aside0.mk (below_step (by repeat (first | (with_reducible first | exact HB.out | apply below_alloc | apply pw_below_drewN | apply below_drew1) | exact HB.out)) hb); clear HB; have HB := n0_; clear n0_; (try clear hb); (try clear hb2); (try clear hk); (try clear hi)))
  go_ret
  exact ⟨by first | rfl | (simp [errW_none, errW_some] <;> rfl) | (simp [*, errW_none, errW_some] <;> rfl), by repeat (first | (with_reducible first | exact HB.out | apply below_alloc | apply pw_below_drewN | apply below_drew1) | exact HB.out)⟩
 ·rw [if_neg c3] at H
  have c3b0 : decide (8192 < (a0.size : Int)) = false := decide_eq_false c3
  have c3b1 : decide (8192 < a0.size) = false := decide_eq_false (by omega)
  clear c3
  replace H := Option.bind_eq_some_iff.mp H
  obtain ⟨⟨t265, t266, t267, t270, t271⟩, A50, H⟩ := H
  replace H : ((lex_All.f k a0).bind fun bt273 => (if t270 = 0 then (fairleadlaw10_ParseCut.j0 k a0 t264 t270 bt273.1 bt273.2.1 (bt273.2.1 != 0)) else (fairleadlaw10_ParseCut.j0 k a0 t264 t270 bt273.1 bt273.2.1 true))) = some r := H
  have A5 := Aside0.mk A50
  clear A50
  replace H := Option.bind_eq_some_iff.mp H
  obtain ⟨⟨t273, t274, t275⟩, A60, H⟩ := H
  replace H : (if t270 = 0 then (fairleadlaw10_ParseCut.j0 k a0 t264 t270 t273 t274 (t274 != 0)) else (fairleadlaw10_ParseCut.j0 k a0 t264 t270 t273 t274 true)) = some r := H
  have A6 := Aside0.mk A60
  clear A60
  have HC7 := Aside0.mk H
  clear H
  go_enter Try.func5, Try.ntmps5
  go_upto_region 6 with (first | ((with_reducible refine gate_callee (f := 9) rfl ?_); refine goesL_ (some 13) rfl rfl Try.func9 (by kernel_rfl) rfl #[] rfl (by (try simp only [List.map_toArray, List.map_cons, List.map_nil]); first | done | rfl | (simp only [List.length_drop, List.length_take]; rfl)) ?_; (with_reducible refine (fairleadlaw10_awake.calls k  t264 _ A2.out).mono ?_); rintro e w8 ⟨rfl, hb⟩; refine ⟨_, rfl, ?_⟩; have n0_ := Aside0.mk (below_step (by repeat (first | (with_reducible first | exact HB.out | apply below_alloc | apply pw_below_drewN | apply below_drew1) | exact HB.out)) hb); clear HB; have HB := n0_; clear n0_; (try clear hb); (try clear hb2); (try clear hk); (try clear hi)) | ((with_reducible refine gate_callee (f := 10) rfl ?_); refine goesL_ (some 20) rfl rfl Try.func10 (by kernel_rfl) rfl #[.string a0] rfl (by (try simp only [List.map_toArray, List.map_cons, List.map_nil]); first | done | rfl | (simp only [List.length_drop, List.length_take]; rfl)) ?_; (with_reducible refine (parse_Parse.calls k a0 t265 t266 t267 t270 t271 _ A5.out).mono ?_); rintro e w9 ⟨v268, rfl, ho0, hb⟩; refine ⟨_, rfl, ?_⟩; have n0_ := Aside0.mk (Kd.S_lower ho0 (below_size (by repeat (first | (with_reducible first | exact HB.out | apply below_alloc | apply pw_below_drewN | apply below_drew1) | exact HB.out)))); have n1_ := Aside0.mk (below_step (by repeat (first | (with_reducible first | exact HB.out | apply below_alloc | apply pw_below_drewN | apply below_drew1) | exact HB.out)) hb); clear HB; have HO269 := n0_; have HB := n1_; clear n0_ n1_; (try clear hb); (try clear hb2); (try clear hk); (try clear hi); (try clear ho0)) | ((with_reducible refine gate_dst (N := 4) rfl ?_); (try (refine gate_guard (by rfl) ?_; dsimp only)); refine box_event ?hg (N := 4) ?hd (cs := #[.int .i64 0, .int .i64 0, .slice none 0 0]) (t := 27) ?hr ?_; (case hd => rfl); (case hg => rfl); (case hr => first | (go_simp; done) | (go_simp; rfl)); intro gb272 hg w10 hbox hb; have n0_ := Aside0.mk (Kd.S_below (by (with_reducible repeat (first | apply Kd.S_alloc | apply Kd.S_drewN | apply Kd.S_drew)); exact HO269.out) hb); have n1_ := Aside0.mk (below_step (by repeat (first | (with_reducible first | exact HB.out | apply below_alloc | apply pw_below_drewN | apply below_drew1) | exact HB.out)) hb); have n2_ := Aside0.mk (hbox); have n3_ := Aside0.mk ((by rw [hg]; exact (below_size (by repeat (first | (with_reducible first | exact HB.out | apply below_alloc | apply pw_below_drewN | apply below_drew1) | exact HB.out))) : w.heap.size ≤ gb272)); have n4_ := Aside0.mk ((by rw [hg]; exact (below_size (by repeat (first | (with_reducible first | exact HB.out | apply below_alloc | apply pw_below_drewN | apply below_drew1) | exact HB.out))) : w.heap.size ≤ gb272)); clear HO269; clear HB; have HO269 := n0_; have HB := n1_; have BK272 := n2_; have GW272 := n3_; have GE272 := n4_; clear n0_ n1_ n2_ n3_ n4_; clear hb hbox hg; have hcz11_0 : w10.cell? ⟨gb272, 0, none⟩ = some (.int .i64 0) := (blk_cell BK272.out 0).trans rfl; have hcz11_1 : w10.cell? ⟨gb272, 1, none⟩ = some (.int .i64 0) := (blk_cell BK272.out 1).trans rfl; have hcz11_2 : w10.cell? ⟨gb272, 2, none⟩ = some (.slice none 0 0) := (blk_cell BK272.out 2).trans rfl; have hfz11_0 := blk_frozen BK272.out; obtain ⟨Ao12, co12, eo12⟩ := Kd.S_slice HO269.out; subst eo12) | ((with_reducible refine gate_callee (f := 13) rfl ?_); refine goesL_ (some 26) rfl rfl Try.func13 (by kernel_rfl) rfl #[.string a0] rfl (by (try simp only [List.map_toArray, List.map_cons, List.map_nil]); first | done | rfl | (simp only [List.length_drop, List.length_take]; rfl)) ?_; (with_reducible refine (lex_All.calls k a0 t273 t274 t275 _ A6.out).mono ?_); rintro e w13 ⟨v276, rfl, ho0, hb⟩; refine ⟨_, rfl, ?_⟩; have n0_ := Aside0.mk (Kd.S_below (by (with_reducible repeat (first | apply Kd.S_alloc | apply Kd.S_drewN | apply Kd.S_drew)); exact (Kd.S_mono (Kd.S_far (p := ⟨gb272, 2, none⟩) (Kd.S_far (p := ⟨gb272, 1, none⟩) (Kd.S_far (p := ⟨gb272, 0, none⟩) (Kd.S_types HO269.out BK272.out (by decide)) (fun _ hk => by first | exact hk.2 | exact hk | exact trivial) (.int .i64 t265)) (fun _ hk => by first | exact hk.2 | exact hk | exact trivial) (.int .i64 t266)) (fun _ hk => by first | exact hk.2 | exact hk | exact trivial) (.slice Ao12 t267.length co12)) (fun _ h_ => h_.1))) hb); have n1_ := Aside0.mk (Kd.R_lower ho0 (below_size (by repeat (first | (with_reducible first | exact HB.out | apply below_alloc | apply pw_below_drewN | apply below_drew1 | refine below_set ?_ GE272.out) | exact HB.out)))); have n2_ := Aside0.mk (blk_below (g := gb272) (o := .cells #[.int .i64 t265, .int .i64 t266, .slice Ao12 t267.length co12] 27 (0, 0)) (by (with_reducible repeat (first | refine blk_drewN ?_ _ | refine blk_drew ?_ | refine blk_alloc ?_ _)); refine blk_put (cs := #[.int .i64 t265, .int .i64 t266, .slice none 0 0]) ?_ 2 _ rfl; (with_reducible repeat (first | refine blk_drewN ?_ _ | refine blk_drew ?_ | refine blk_alloc ?_ _)); refine blk_put (cs := #[.int .i64 t265, .int .i64 0, .slice none 0 0]) ?_ 1 _ rfl; (with_reducible repeat (first | refine blk_drewN ?_ _ | refine blk_drew ?_ | refine blk_alloc ?_ _)); refine blk_put (cs := #[.int .i64 0, .int .i64 0, .slice none 0 0]) ?_ 0 _ rfl; (with_reducible repeat (first | refine blk_drewN ?_ _ | refine blk_drew ?_ | refine blk_alloc ?_ _)); exact BK272.out) hb); have n3_ := Aside0.mk (below_step (by repeat (first | (with_reducible first | exact HB.out | apply below_alloc | apply pw_below_drewN | apply below_drew1 | refine below_set ?_ GE272.out) | exact HB.out)) hb); clear HO269; clear BK272; clear HB; have HO269 := n0_; have HO277 := n1_; have BK272 := n2_; have HB := n3_; clear n0_ n1_ n2_ n3_; (try clear hb); (try clear hb2); (try clear hk); (try clear hi); (try clear ho0)))
  (try simp only [Act.put, List.setIfInBounds_toArray, List.set_cons_zero, List.set_cons_succ])
  go_cut [35] (fun v35 wc => ∃ (kq : Nat) (x35_6 : Bool), v35 = .bool x35_6 ∧ Aside0 (fairleadlaw10_ParseCut.j0 kq a0 t264 t270 t273 t274 x35_6 = some r) ∧ Aside0 (kq ≤ k) ∧ Aside0 (Kd.R k39 39 wc w.heap.size (fun _ => True) v276 t273) ∧ Aside0 (Kd.S k44 44 wc w.heap.size (fun _ => True) (.slice Ao12 t267.length co12) t267) ∧ Aside0 (wc.heap[gb272]? = some (.cells #[.int .i64 t265, .int .i64 t266, (.slice Ao12 t267.length co12)] 27 (0, 0))) ∧ Aside0 (Below w.heap.size w wc))
  case first =>
   have H := HC7.out
   clear HC7
   by_cases c14 : t270 = 0
   ·rw [if_pos c14] at H
    have c14b0 : (t270 == 0) = true := beq_iff_eq.mpr c14
    have c14b1 : (t270 != 0) = false := bne_eq_false_iff_eq.mpr c14
    clear c14
    (first | rw [c14b0] | (simp only [i64_w, i32_w]; rw [c14b0]) | skip)
    have H' := Aside0.mk H
    clear H
    go_wp2
    go_meet
    case rel => exact ⟨_, ((t274 != 0)), (by first | rfl | (simp; done) | (simp [*]; done)), H', ⟨by first | omega | exact Nat.le_refl _⟩, ⟨by (with_reducible repeat (first | apply Kd.R_alloc | apply Kd.R_drewN | apply Kd.R_drew)); exact HO277.out⟩, ⟨by (with_reducible repeat (first | apply Kd.S_alloc | apply Kd.S_drewN | apply Kd.S_drew)); exact HO269.out⟩, ⟨by (with_reducible repeat (first | refine blk_drewN ?_ _ | refine blk_drew ?_ | refine blk_alloc ?_ _)); exact BK272.out⟩, ⟨by repeat (first | (with_reducible first | exact HB.out | apply below_alloc | apply pw_below_drewN | apply below_drew1 | refine below_set ?_ GE272.out) | exact HB.out)⟩⟩
   ·rw [if_neg c14] at H
    have c14b0 : (t270 == 0) = false := beq_eq_false_iff_ne.mpr c14
    have c14b1 : (t270 != 0) = true := bne_iff_ne.mpr c14
    (first | rw [c14b0] | (simp only [i64_w, i32_w]; rw [c14b0]) | skip)
    have H' := Aside0.mk H
    clear H
    go_wp2
    go_meet
    case rel => exact ⟨_, (true), (by first | rfl | (simp; done) | (simp [*]; done)), H', ⟨by first | omega | exact Nat.le_refl _⟩, ⟨by (with_reducible repeat (first | apply Kd.R_alloc | apply Kd.R_drewN | apply Kd.R_drew)); exact HO277.out⟩, ⟨by (with_reducible repeat (first | apply Kd.S_alloc | apply Kd.S_drewN | apply Kd.S_drew)); exact HO269.out⟩, ⟨by (with_reducible repeat (first | refine blk_drewN ?_ _ | refine blk_drew ?_ | refine blk_alloc ?_ _)); exact BK272.out⟩, ⟨by repeat (first | (with_reducible first | exact HB.out | apply below_alloc | apply pw_below_drewN | apply below_drew1 | refine below_set ?_ GE272.out) | exact HB.out)⟩⟩
  case rest =>
   clear HC7
   try clear c1
   try clear p2
   try clear c3
   try clear c3b0
   try clear c3b1
   try clear c5
   try clear c9
   try clear c10
   try clear c13
   try clear c14
   try clear c14b0
   try clear c14b1
   try clear hcz11_0 hcz11_1 hcz11_2
   try clear hfz11_0
   obtain ⟨kq, x35_6, rfl, HA, HJ6, HO_7, HO_273002, BK272, HB⟩ := hcut
   cases kq with
   | zero => exact absurd HA.out (by simp [fairleadlaw10_ParseCut.j0])
   | succ kj6 =>
    have H := HA.out
    clear HA
    simp only [fairleadlaw10_ParseCut.j0] at H
    by_cases c15 : x35_6 = true
    ·subst c15
     have H1 : (if t264 = true then (if t270 = t274 then (some true) else (some (t274 == 0))) else (some false)) = some r := by rw [if_pos rfl] at H; exact H
     clear H
     have H := H1
     clear H1
     by_cases c16 : t264 = true
     ·subst c16
      have H1 : (if t270 = t274 then (some true) else (some (t274 == 0))) = some r := by rw [if_pos rfl] at H; exact H
      clear H
      have H := H1
      clear H1
      by_cases c17 : t270 = t274
      ·rw [if_pos c17] at H
       have c17b0 : (t270 == t274) = true := beq_iff_eq.mpr c17
       have c17b1 : (t270 != t274) = false := bne_eq_false_iff_eq.mpr c17
       clear c17
       obtain rfl := Option.some.inj H
       go_wp2
       go_ret
       exact ⟨by first | rfl | (simp [errW_none, errW_some] <;> rfl) | (simp [*, errW_none, errW_some] <;> rfl), by repeat (first | (with_reducible first | exact HB.out | apply below_alloc | apply pw_below_drewN | apply below_drew1 | refine below_set ?_ GE272.out) | exact HB.out)⟩
      ·rw [if_neg c17] at H
       have c17b0 : (t270 == t274) = false := beq_eq_false_iff_ne.mpr c17
       have c17b1 : (t270 != t274) = true := bne_iff_ne.mpr c17
       obtain rfl := Option.some.inj H
       go_wp2
       go_ret
       exact ⟨by first | rfl | (simp [errW_none, errW_some] <;> rfl) | (simp [*, errW_none, errW_some] <;> rfl), by repeat (first | (with_reducible first | exact HB.out | apply below_alloc | apply pw_below_drewN | apply below_drew1 | refine below_set ?_ GE272.out) | exact HB.out)⟩
     ·replace c16 := Bool.eq_false_iff.mpr c16
      subst c16
      have H1 : (some false) = some r := by rw [if_neg (show ¬ (false = true) by decide)] at H; exact H
      clear H
      have H := H1
      clear H1
      obtain rfl := Option.some.inj H
      go_wp2
      go_ret
      exact ⟨by first | rfl | (simp [errW_none, errW_some] <;> rfl) | (simp [*, errW_none, errW_some] <;> rfl), by repeat (first | (with_reducible first | exact HB.out | apply below_alloc | apply pw_below_drewN | apply below_drew1 | refine below_set ?_ GE272.out) | exact HB.out)⟩
    ·replace c15 := Bool.eq_false_iff.mpr c15
     subst c15
     have H1 : (if (t273.length : Int) < 2 then (some false) else (if 0 ≤ (wrap64 ((t273.length : Int) - 2)) then (if (wrap64 ((t273.length : Int) - 2)) < (t273.length : Int) then (if ((rd_T39 t273 (wrap64 ((t273.length : Int) - 2))).f2).toList = ([59] : List UInt8) then (if 0 ≤ ((rd_T39 t273 (wrap64 ((t273.length : Int) - 2))).f1) then (if ((rd_T39 t273 (wrap64 ((t273.length : Int) - 2))).f1) ≤ (a0.size : Int) then ((parse_Parse.f kj6 (a0.extract 0 (((rd_T39 t273 (wrap64 ((t273.length : Int) - 2))).f1) : Int).toNat)).bind fun bt280 => (if t264 = true then (if bt280.2.2.2.1 = 7 then (if (bt280.2.2.1.length : Int) = 0 then (some (bt280.2.2.2.2 == ((rd_T39 t273 (wrap64 ((t273.length : Int) - 2))).f1))) else (some false)) else (some false)) else (some false))) else (none)) else (none)) else (some false)) else (none)) else (none))) = some r := by rw [if_neg (show ¬ (false = true) by decide)] at H; exact H
     clear H
     have H := H1
     clear H1
     by_cases c18 : (t273.length : Int) < 2
     ·rw [if_pos c18] at H
      have c18b0 : decide ((t273.length : Int) < 2) = true := decide_eq_true c18
      have c18b1 : decide (t273.length < 2) = true := decide_eq_true (by omega)
      clear c18
      obtain rfl := Option.some.inj H
      obtain ⟨Ao19, co19, eo19⟩ := Kd.R_slice HO_7.out
      subst eo19
      go_wp2
      go_ret
      exact ⟨by first | rfl | (simp [errW_none, errW_some] <;> rfl) | (simp [*, errW_none, errW_some] <;> rfl), by repeat (first | (with_reducible first | exact HB.out | apply below_alloc | apply pw_below_drewN | apply below_drew1 | refine below_set ?_ GE272.out) | exact HB.out)⟩
     ·rw [if_neg c18] at H
      have c18b0 : decide ((t273.length : Int) < 2) = false := decide_eq_false c18
      have c18b1 : decide (t273.length < 2) = false := decide_eq_false (by omega)
      clear c18
      obtain ⟨ji20, hji20⟩ : ∃ j_ : Int, (wrap64 ((t273.length : Int) - 2)) = j_ := ⟨_, rfl⟩
      replace H : (if 0 ≤ (ji20) then (if (ji20) < (t273.length : Int) then (if ((rd_T39 t273 (ji20)).f2).toList = ([59] : List UInt8) then (if 0 ≤ ((rd_T39 t273 (ji20)).f1) then (if ((rd_T39 t273 (ji20)).f1) ≤ (a0.size : Int) then ((parse_Parse.f kj6 (a0.extract 0 (((rd_T39 t273 (ji20)).f1) : Int).toNat)).bind fun bt280 => (if t264 = true then (if bt280.2.2.2.1 = 7 then (if (bt280.2.2.1.length : Int) = 0 then (some (bt280.2.2.2.2 == ((rd_T39 t273 (ji20)).f1))) else (some false)) else (some false)) else (some false))) else (none)) else (none)) else (some false)) else (none)) else (none)) = some r := by first | (rw [hji20] at H; exact H) | (simp only [hji20] at H ⊢; exact H)
      have hji20w : (IntKind.i64.wrap ((t273.length : Int) - 2)) = ji20 := (i64_w _).trans hji20
      by_cases c21 : 0 ≤ (ji20)
      ·rw [if_pos c21] at H
       have c21b0 : decide (0 ≤ (ji20)) = true := decide_eq_true c21
       clear c21
       by_cases c22 : (ji20) < (t273.length : Int)
       ·rw [if_pos c22] at H
        have c22b0 : decide ((ji20) < (t273.length : Int)) = true := decide_eq_true c22
        clear c22
        by_cases c23 : ((rd_T39 t273 (ji20)).f2).toList = ([59] : List UInt8)
        ·rw [if_pos c23] at H
         have c23b0 : (((rd_T39 t273 (ji20)).f2).toList == ([59] : List UInt8)) = true := beq_iff_eq.mpr c23
         have c23b1 : (((rd_T39 t273 (ji20)).f2).toList != ([59] : List UInt8)) = false := bne_eq_false_iff_eq.mpr c23
         clear c23
         by_cases c24 : 0 ≤ ((rd_T39 t273 (ji20)).f1)
         ·rw [if_pos c24] at H
          have c24b0 := eq_true c24
          have c24b1 : decide (0 ≤ ((rd_T39 t273 (ji20)).f1)) = true := decide_eq_true c24
          clear c24
          by_cases c25 : ((rd_T39 t273 (ji20)).f1) ≤ (a0.size : Int)
          ·rw [if_pos c25] at H
           have c25b0 := eq_true c25
           have c25b1 : decide (((rd_T39 t273 (ji20)).f1) ≤ (a0.size : Int)) = true := decide_eq_true c25
           clear c25
           replace H := Option.bind_eq_some_iff.mp H
           obtain ⟨⟨t280, t281, t282, t285, t286⟩, A260, H⟩ := H
           replace H : (if t264 = true then (if t285 = 7 then (if (t282.length : Int) = 0 then (some (t286 == ((rd_T39 t273 (ji20)).f1))) else (some false)) else (some false)) else (some false)) = some r := H
           have A26 := Aside0.mk A260
           clear A260
           by_cases c27 : t264 = true
           ·subst c27
            have H1 : (if t285 = 7 then (if (t282.length : Int) = 0 then (some (t286 == ((rd_T39 t273 (ji20)).f1))) else (some false)) else (some false)) = some r := by rw [if_pos rfl] at H; exact H
            clear H
            have H := H1
            clear H1
            by_cases c28 : t285 = 7
            ·rw [if_pos c28] at H
             have c28b0 : (t285 == 7) = true := beq_iff_eq.mpr c28
             have c28b1 : (t285 != 7) = false := bne_eq_false_iff_eq.mpr c28
             clear c28
             by_cases c29 : (t282.length : Int) = 0
             ·rw [if_pos c29] at H
              have c29b0 : ((t282.length : Int) == 0) = true := beq_iff_eq.mpr c29
              have c29b1 : ((t282.length : Int) != 0) = false := bne_eq_false_iff_eq.mpr c29
              clear c29
              obtain rfl := Option.some.inj H
              obtain ⟨Ao30, co30, eo30⟩ := Kd.R_slice HO_7.out
              subst eo30
              have p278 : 0 ≤ ((ji20) : Int) := of_decide_eq_true (by first | (with_reducible assumption) | assumption)
              have q278 : (ji20) < (t273.length : Int) := of_decide_eq_true (by first | (with_reducible assumption) | assumption)
              obtain ⟨ad278, e278, hx278_0, hx278_1, hx278_2, hx278_3⟩ := at_T39 (Kd.R_reads' HO_7.out).2.2 (ji20) p278 q278
              cases e278
              replace p278 := eq_true p278
              replace q278 := eq_true q278
              have p279 : 0 ≤ ((ji20) : Int) := of_decide_eq_true (by first | (with_reducible assumption) | assumption)
              have q279 : (ji20) < (t273.length : Int) := of_decide_eq_true (by first | (with_reducible assumption) | assumption)
              obtain ⟨ad279, e279, hx279_0, hx279_1, hx279_2, hx279_3⟩ := at_T39 (Kd.R_reads' HO_7.out).2.2 (ji20) p279 q279
              obtain rfl : ad278 = ad279 := (by injection e279)
              replace p279 := eq_true p279
              replace q279 := eq_true q279
              go_wp2_with (first | ((with_reducible refine gate_callee (f := 10) rfl ?_); refine goesL_ (some 69) rfl rfl Try.func10 (by kernel_rfl) rfl #[.string (a0.extract 0 (((rd_T39 t273 (ji20)).f1) : Int).toNat)] rfl (by (try simp only [List.map_toArray, List.map_cons, List.map_nil]); first | done | (simp only [hji20]; rfl) | rfl | (simp only [List.length_drop, List.length_take]; rfl)) ?_; (with_reducible refine (parse_Parse.calls kj6 (a0.extract 0 (((rd_T39 t273 (ji20)).f1) : Int).toNat) t280 t281 t282 t285 t286 _ A26.out).mono ?_); rintro e w31 ⟨v283, rfl, ho0, hb⟩; refine ⟨_, rfl, ?_⟩; have n0_ := Aside0.mk (Kd.R_below (by (with_reducible repeat (first | apply Kd.R_alloc | apply Kd.R_drewN | apply Kd.R_drew)); exact HO_7.out) hb); have n1_ := Aside0.mk (Kd.S_elder' (by (with_reducible repeat (first | apply Kd.S_alloc | apply Kd.S_drewN | apply Kd.S_drew)); exact HO_273002.out) (Kd.S_base ho0) hb); have n2_ := Aside0.mk (Kd.S_lower (Kd.S_new' ho0 (Kd.S_lt (by (with_reducible repeat (first | apply Kd.S_alloc | apply Kd.S_drewN | apply Kd.S_drew)); exact HO_273002.out))) (below_size (by repeat (first | (with_reducible first | exact HB.out | apply below_alloc | apply pw_below_drewN | apply below_drew1 | refine below_set ?_ GE272.out) | exact HB.out)))); have n3_ := Aside0.mk (blk_below (g := gb272) (o := .cells #[.int .i64 t265, .int .i64 t266, .slice Ao12 t267.length co12] 27 (0, 0)) (by (with_reducible repeat (first | refine blk_drewN ?_ _ | refine blk_drew ?_ | refine blk_alloc ?_ _)); exact BK272.out) hb); have n4_ := Aside0.mk (below_step (by repeat (first | (with_reducible first | exact HB.out | apply below_alloc | apply pw_below_drewN | apply below_drew1 | refine below_set ?_ GE272.out) | exact HB.out)) hb); clear HO_7; clear HO_273002; clear BK272; clear HB; have HO_7 := n0_; have HO_273002 := n1_; have HO284 := n2_; have BK272 := n3_; have HB := n4_; clear n0_ n1_ n2_ n3_ n4_; (try clear hb); (try clear hb2); (try clear hk); (try clear hi); (try clear ho0)) | ((with_reducible refine gate_dst (N := 10) rfl ?_); (try (refine gate_guard (by rfl) ?_; dsimp only)); refine box_event ?hg (N := 10) ?hd (cs := #[.int .i64 0, .int .i64 0, .slice none 0 0]) (t := 27) ?hr ?_; (case hd => rfl); (case hg => rfl); (case hr => first | (go_simp; done) | (go_simp; rfl)); intro gb287 hg w32 hbox hb; have n0_ := Aside0.mk (Kd.R_below (by (with_reducible repeat (first | apply Kd.R_alloc | apply Kd.R_drewN | apply Kd.R_drew)); exact HO_7.out) hb); have n1_ := Aside0.mk (Kd.S_below (by (with_reducible repeat (first | apply Kd.S_alloc | apply Kd.S_drewN | apply Kd.S_drew)); exact HO_273002.out) hb); have n2_ := Aside0.mk (Kd.S_below (by (with_reducible repeat (first | apply Kd.S_alloc | apply Kd.S_drewN | apply Kd.S_drew)); exact HO284.out) hb); have n3_ := Aside0.mk (blk_below (g := gb272) (o := .cells #[.int .i64 t265, .int .i64 t266, .slice Ao12 t267.length co12] 27 (0, 0)) (by (with_reducible repeat (first | refine blk_drewN ?_ _ | refine blk_drew ?_ | refine blk_alloc ?_ _)); exact BK272.out) hb); have n4_ := Aside0.mk (below_step (by repeat (first | (with_reducible first | exact HB.out | apply below_alloc | apply pw_below_drewN | apply below_drew1 | refine below_set ?_ GE272.out) | exact HB.out)) hb); have n5_ := Aside0.mk (hbox); have n6_ := Aside0.mk ((by rw [hg]; exact (below_size (by repeat (first | (with_reducible first | exact HB.out | apply below_alloc | apply pw_below_drewN | apply below_drew1 | refine below_set ?_ GE272.out) | exact HB.out))) : w.heap.size ≤ gb287)); have n7_ := Aside0.mk ((by rw [hg]; exact (below_size (by repeat (first | (with_reducible first | exact HB.out | apply below_alloc | apply pw_below_drewN | apply below_drew1 | refine below_set ?_ GE272.out) | exact HB.out))) : w.heap.size ≤ gb287)); have n8_ := Aside0.mk ((by rw [hg]; exact Nat.ne_of_lt (blk_lt (g := gb272) (o := .cells #[.int .i64 t265, .int .i64 t266, .slice Ao12 t267.length co12] 27 (0, 0)) (by (with_reducible repeat (first | refine blk_drewN ?_ _ | refine blk_drew ?_ | refine blk_alloc ?_ _)); exact BK272.out)) : gb272 ≠ gb287)); have n9_ := Aside0.mk ((by rw [hg]; exact Nat.ne_of_gt (blk_lt (g := gb272) (o := .cells #[.int .i64 t265, .int .i64 t266, .slice Ao12 t267.length co12] 27 (0, 0)) (by (with_reducible repeat (first | refine blk_drewN ?_ _ | refine blk_drew ?_ | refine blk_alloc ?_ _)); exact BK272.out)) : gb287 ≠ gb272)); clear HO_7; clear HO_273002; clear HO284; clear BK272; clear HB; have HO_7 := n0_; have HO_273002 := n1_; have HO284 := n2_; have BK272 := n3_; have HB := n4_; have BK287 := n5_; have GW287 := n6_; have GE287 := n7_; have NB272_287 := n8_; have NB287_272 := n9_; clear n0_ n1_ n2_ n3_ n4_ n5_ n6_ n7_ n8_ n9_; clear hb hbox hg; have hnb33 := NB287_272.out; have hnc33 := NB272_287.out; have hcz34_0 : w32.cell? ⟨gb287, 0, none⟩ = some (.int .i64 0) := (blk_cell BK287.out 0).trans rfl; have hcz34_1 : w32.cell? ⟨gb287, 1, none⟩ = some (.int .i64 0) := (blk_cell BK287.out 1).trans rfl; have hcz34_2 : w32.cell? ⟨gb287, 2, none⟩ = some (.slice none 0 0) := (blk_cell BK287.out 2).trans rfl; have hfz34_0 := blk_frozen BK287.out; obtain ⟨Ao35, co35, eo35⟩ := Kd.S_slice HO284.out; subst eo35; have p288 : 0 ≤ ((ji20) : Int) := of_decide_eq_true (by first | (with_reducible assumption) | assumption); have q288 : (ji20) < (t273.length : Int) := of_decide_eq_true (by first | (with_reducible assumption) | assumption); obtain ⟨ad288, e288, hx288_0, hx288_1, hx288_2, hx288_3⟩ := at_T39 (Kd.R_reads' HO_7.out).2.2 (ji20) p288 q288; obtain rfl : ad278 = ad288 := (by injection e288); have hn288_0 : ad278.block ≠ gb287 := Kd.own_blk (Kd.R_ne HO_7.out BK287.out (by decide)); have hn288_1 : ad278.block ≠ gb287 := Kd.own_blk (Kd.R_ne HO_7.out BK287.out (by decide)); have hn288_2 : ad278.block ≠ gb287 := Kd.own_blk (Kd.R_ne HO_7.out BK287.out (by decide)); replace hx288_0 := (cell_far (p := ⟨gb287, 0, none⟩) (by first | (rw [add_block]; exact hn288_0) | (show (Addr.add _ _).block ≠ _; rw [add_block]; exact hn288_0) | exact hn288_0) (.int .i64 t280)).trans hx288_0; replace hx288_1 := (cell_far (p := ⟨gb287, 0, none⟩) (by first | (rw [add_block]; exact hn288_0) | (show (Addr.add _ _).block ≠ _; rw [add_block]; exact hn288_0) | exact hn288_0) (.int .i64 t280)).trans hx288_1; replace hx288_2 := (cell_far (p := ⟨gb287, 0, none⟩) (by first | (rw [add_block]; exact hn288_0) | (show (Addr.add _ _).block ≠ _; rw [add_block]; exact hn288_0) | exact hn288_0) (.int .i64 t280)).trans hx288_2; replace hx288_3 := (cell_far (p := ⟨gb287, 0, none⟩) (by first | (rw [add_block]; exact hn288_0) | (show (Addr.add _ _).block ≠ _; rw [add_block]; exact hn288_0) | exact hn288_0) (.int .i64 t280)).trans hx288_3; replace hx288_0 := (cell_far (p := ⟨gb287, 1, none⟩) (by first | (rw [add_block]; exact hn288_1) | (show (Addr.add _ _).block ≠ _; rw [add_block]; exact hn288_1) | exact hn288_1) (.int .i64 t281)).trans hx288_0; replace hx288_1 := (cell_far (p := ⟨gb287, 1, none⟩) (by first | (rw [add_block]; exact hn288_1) | (show (Addr.add _ _).block ≠ _; rw [add_block]; exact hn288_1) | exact hn288_1) (.int .i64 t281)).trans hx288_1; replace hx288_2 := (cell_far (p := ⟨gb287, 1, none⟩) (by first | (rw [add_block]; exact hn288_1) | (show (Addr.add _ _).block ≠ _; rw [add_block]; exact hn288_1) | exact hn288_1) (.int .i64 t281)).trans hx288_2; replace hx288_3 := (cell_far (p := ⟨gb287, 1, none⟩) (by first | (rw [add_block]; exact hn288_1) | (show (Addr.add _ _).block ≠ _; rw [add_block]; exact hn288_1) | exact hn288_1) (.int .i64 t281)).trans hx288_3; replace hx288_0 := (cell_far (p := ⟨gb287, 2, none⟩) (by first | (rw [add_block]; exact hn288_2) | (show (Addr.add _ _).block ≠ _; rw [add_block]; exact hn288_2) | exact hn288_2) (.slice Ao35 t282.length co35)).trans hx288_0; replace hx288_1 := (cell_far (p := ⟨gb287, 2, none⟩) (by first | (rw [add_block]; exact hn288_2) | (show (Addr.add _ _).block ≠ _; rw [add_block]; exact hn288_2) | exact hn288_2) (.slice Ao35 t282.length co35)).trans hx288_1; replace hx288_2 := (cell_far (p := ⟨gb287, 2, none⟩) (by first | (rw [add_block]; exact hn288_2) | (show (Addr.add _ _).block ≠ _; rw [add_block]; exact hn288_2) | exact hn288_2) (.slice Ao35 t282.length co35)).trans hx288_2; replace hx288_3 := (cell_far (p := ⟨gb287, 2, none⟩) (by first | (rw [add_block]; exact hn288_2) | (show (Addr.add _ _).block ≠ _; rw [add_block]; exact hn288_2) | exact hn288_2) (.slice Ao35 t282.length co35)).trans hx288_3; clear hn288_0; clear hn288_1; clear hn288_2; replace p288 := eq_true p288; replace q288 := eq_true q288))
              go_ret
              exact ⟨by first | rfl | (simp [errW_none, errW_some] <;> rfl) | (simp only [← hji20]; first | rfl | (simp [errW_none, errW_some] <;> rfl)) | (simp [*, errW_none, errW_some] <;> rfl), by repeat (first | (with_reducible first | exact HB.out | apply below_alloc | apply pw_below_drewN | apply below_drew1 | refine below_set ?_ GE272.out | refine below_set ?_ GE287.out) | exact HB.out)⟩
             ·rw [if_neg c29] at H
              have c29b0 : ((t282.length : Int) == 0) = false := beq_eq_false_iff_ne.mpr c29
              have c29b1 : ((t282.length : Int) != 0) = true := bne_iff_ne.mpr c29
              have c29b2 : ¬ (t282 = []) := fun h_ => c29 (by rw [h_]; rfl)
              obtain rfl := Option.some.inj H
              obtain ⟨Ao36, co36, eo36⟩ := Kd.R_slice HO_7.out
              subst eo36
              have p278 : 0 ≤ ((ji20) : Int) := of_decide_eq_true (by first | (with_reducible assumption) | assumption)
              have q278 : (ji20) < (t273.length : Int) := of_decide_eq_true (by first | (with_reducible assumption) | assumption)
              obtain ⟨ad278, e278, hx278_0, hx278_1, hx278_2, hx278_3⟩ := at_T39 (Kd.R_reads' HO_7.out).2.2 (ji20) p278 q278
              cases e278
              replace p278 := eq_true p278
              replace q278 := eq_true q278
              have p279 : 0 ≤ ((ji20) : Int) := of_decide_eq_true (by first | (with_reducible assumption) | assumption)
              have q279 : (ji20) < (t273.length : Int) := of_decide_eq_true (by first | (with_reducible assumption) | assumption)
              obtain ⟨ad279, e279, hx279_0, hx279_1, hx279_2, hx279_3⟩ := at_T39 (Kd.R_reads' HO_7.out).2.2 (ji20) p279 q279
              obtain rfl : ad278 = ad279 := (by injection e279)
              replace p279 := eq_true p279
              replace q279 := eq_true q279
              go_wp2_with (first | ((with_reducible refine gate_callee (f := 10) rfl ?_); refine goesL_ (some 69) rfl rfl Try.func10 (by kernel_rfl) rfl #[.string (a0.extract 0 (((rd_T39 t273 (ji20)).f1) : Int).toNat)] rfl (by (try simp only [List.map_toArray, List.map_cons, List.map_nil]); first | done | (simp only [hji20]; rfl) | rfl | (simp only [List.length_drop, List.length_take]; rfl)) ?_; (with_reducible refine (parse_Parse.calls kj6 (a0.extract 0 (((rd_T39 t273 (ji20)).f1) : Int).toNat) t280 t281 t282 t285 t286 _ A26.out).mono ?_); rintro e w37 ⟨v283, rfl, ho0, hb⟩; refine ⟨_, rfl, ?_⟩; have n0_ := Aside0.mk (Kd.R_below (by (with_reducible repeat (first | apply Kd.R_alloc | apply Kd.R_drewN | apply Kd.R_drew)); exact HO_7.out) hb); have n1_ := Aside0.mk (Kd.S_elder' (by (with_reducible repeat (first | apply Kd.S_alloc | apply Kd.S_drewN | apply Kd.S_drew)); exact HO_273002.out) (Kd.S_base ho0) hb); have n2_ := Aside0.mk (Kd.S_lower (Kd.S_new' ho0 (Kd.S_lt (by (with_reducible repeat (first | apply Kd.S_alloc | apply Kd.S_drewN | apply Kd.S_drew)); exact HO_273002.out))) (below_size (by repeat (first | (with_reducible first | exact HB.out | apply below_alloc | apply pw_below_drewN | apply below_drew1 | refine below_set ?_ GE272.out) | exact HB.out)))); have n3_ := Aside0.mk (blk_below (g := gb272) (o := .cells #[.int .i64 t265, .int .i64 t266, .slice Ao12 t267.length co12] 27 (0, 0)) (by (with_reducible repeat (first | refine blk_drewN ?_ _ | refine blk_drew ?_ | refine blk_alloc ?_ _)); exact BK272.out) hb); have n4_ := Aside0.mk (below_step (by repeat (first | (with_reducible first | exact HB.out | apply below_alloc | apply pw_below_drewN | apply below_drew1 | refine below_set ?_ GE272.out) | exact HB.out)) hb); clear HO_7; clear HO_273002; clear BK272; clear HB; have HO_7 := n0_; have HO_273002 := n1_; have HO284 := n2_; have BK272 := n3_; have HB := n4_; clear n0_ n1_ n2_ n3_ n4_; (try clear hb); (try clear hb2); (try clear hk); (try clear hi); (try clear ho0)) | ((with_reducible refine gate_dst (N := 10) rfl ?_); (try (refine gate_guard (by rfl) ?_; dsimp only)); refine box_event ?hg (N := 10) ?hd (cs := #[.int .i64 0, .int .i64 0, .slice none 0 0]) (t := 27) ?hr ?_; (case hd => rfl); (case hg => rfl); (case hr => first | (go_simp; done) | (go_simp; rfl)); intro gb287 hg w38 hbox hb; have n0_ := Aside0.mk (Kd.R_below (by (with_reducible repeat (first | apply Kd.R_alloc | apply Kd.R_drewN | apply Kd.R_drew)); exact HO_7.out) hb); have n1_ := Aside0.mk (Kd.S_below (by (with_reducible repeat (first | apply Kd.S_alloc | apply Kd.S_drewN | apply Kd.S_drew)); exact HO_273002.out) hb); have n2_ := Aside0.mk (Kd.S_below (by (with_reducible repeat (first | apply Kd.S_alloc | apply Kd.S_drewN | apply Kd.S_drew)); exact HO284.out) hb); have n3_ := Aside0.mk (blk_below (g := gb272) (o := .cells #[.int .i64 t265, .int .i64 t266, .slice Ao12 t267.length co12] 27 (0, 0)) (by (with_reducible repeat (first | refine blk_drewN ?_ _ | refine blk_drew ?_ | refine blk_alloc ?_ _)); exact BK272.out) hb); have n4_ := Aside0.mk (below_step (by repeat (first | (with_reducible first | exact HB.out | apply below_alloc | apply pw_below_drewN | apply below_drew1 | refine below_set ?_ GE272.out) | exact HB.out)) hb); have n5_ := Aside0.mk (hbox); have n6_ := Aside0.mk ((by rw [hg]; exact (below_size (by repeat (first | (with_reducible first | exact HB.out | apply below_alloc | apply pw_below_drewN | apply below_drew1 | refine below_set ?_ GE272.out) | exact HB.out))) : w.heap.size ≤ gb287)); have n7_ := Aside0.mk ((by rw [hg]; exact (below_size (by repeat (first | (with_reducible first | exact HB.out | apply below_alloc | apply pw_below_drewN | apply below_drew1 | refine below_set ?_ GE272.out) | exact HB.out))) : w.heap.size ≤ gb287)); have n8_ := Aside0.mk ((by rw [hg]; exact Nat.ne_of_lt (blk_lt (g := gb272) (o := .cells #[.int .i64 t265, .int .i64 t266, .slice Ao12 t267.length co12] 27 (0, 0)) (by (with_reducible repeat (first | refine blk_drewN ?_ _ | refine blk_drew ?_ | refine blk_alloc ?_ _)); exact BK272.out)) : gb272 ≠ gb287)); have n9_ := Aside0.mk ((by rw [hg]; exact Nat.ne_of_gt (blk_lt (g := gb272) (o := .cells #[.int .i64 t265, .int .i64 t266, .slice Ao12 t267.length co12] 27 (0, 0)) (by (with_reducible repeat (first | refine blk_drewN ?_ _ | refine blk_drew ?_ | refine blk_alloc ?_ _)); exact BK272.out)) : gb287 ≠ gb272)); clear HO_7; clear HO_273002; clear HO284; clear BK272; clear HB; have HO_7 := n0_; have HO_273002 := n1_; have HO284 := n2_; have BK272 := n3_; have HB := n4_; have BK287 := n5_; have GW287 := n6_; have GE287 := n7_; have NB272_287 := n8_; have NB287_272 := n9_; clear n0_ n1_ n2_ n3_ n4_ n5_ n6_ n7_ n8_ n9_; clear hb hbox hg; have hnb39 := NB287_272.out; have hnc39 := NB272_287.out; have hcz40_0 : w38.cell? ⟨gb287, 0, none⟩ = some (.int .i64 0) := (blk_cell BK287.out 0).trans rfl; have hcz40_1 : w38.cell? ⟨gb287, 1, none⟩ = some (.int .i64 0) := (blk_cell BK287.out 1).trans rfl; have hcz40_2 : w38.cell? ⟨gb287, 2, none⟩ = some (.slice none 0 0) := (blk_cell BK287.out 2).trans rfl; have hfz40_0 := blk_frozen BK287.out; obtain ⟨Ao41, co41, eo41⟩ := Kd.S_slice HO284.out; subst eo41))
              go_ret
              exact ⟨by first | rfl | (simp [errW_none, errW_some] <;> rfl) | (simp only [← hji20]; first | rfl | (simp [errW_none, errW_some] <;> rfl)) | (simp [*, errW_none, errW_some] <;> rfl), by repeat (first | (with_reducible first | exact HB.out | apply below_alloc | apply pw_below_drewN | apply below_drew1 | refine below_set ?_ GE272.out | refine below_set ?_ GE287.out) | exact HB.out)⟩
            ·rw [if_neg c28] at H
             have c28b0 : (t285 == 7) = false := beq_eq_false_iff_ne.mpr c28
             have c28b1 : (t285 != 7) = true := bne_iff_ne.mpr c28
             obtain rfl := Option.some.inj H
             obtain ⟨Ao42, co42, eo42⟩ := Kd.R_slice HO_7.out
             subst eo42
             have p278 : 0 ≤ ((ji20) : Int) := of_decide_eq_true (by first | (with_reducible assumption) | assumption)
             have q278 : (ji20) < (t273.length : Int) := of_decide_eq_true (by first | (with_reducible assumption) | assumption)
             obtain ⟨ad278, e278, hx278_0, hx278_1, hx278_2, hx278_3⟩ := at_T39 (Kd.R_reads' HO_7.out).2.2 (ji20) p278 q278
             cases e278
             replace p278 := eq_true p278
             replace q278 := eq_true q278
             have p279 : 0 ≤ ((ji20) : Int) := of_decide_eq_true (by first | (with_reducible assumption) | assumption)
             have q279 : (ji20) < (t273.length : Int) := of_decide_eq_true (by first | (with_reducible assumption) | assumption)
             obtain ⟨ad279, e279, hx279_0, hx279_1, hx279_2, hx279_3⟩ := at_T39 (Kd.R_reads' HO_7.out).2.2 (ji20) p279 q279
             obtain rfl : ad278 = ad279 := (by injection e279)
             replace p279 := eq_true p279
             replace q279 := eq_true q279
             go_wp2_with (first | ((with_reducible refine gate_callee (f := 10) rfl ?_); refine goesL_ (some 69) rfl rfl Try.func10 (by kernel_rfl) rfl #[.string (a0.extract 0 (((rd_T39 t273 (ji20)).f1) : Int).toNat)] rfl (by (try simp only [List.map_toArray, List.map_cons, List.map_nil]); first | done | (simp only [hji20]; rfl) | rfl | (simp only [List.length_drop, List.length_take]; rfl)) ?_; (with_reducible refine (parse_Parse.calls kj6 (a0.extract 0 (((rd_T39 t273 (ji20)).f1) : Int).toNat) t280 t281 t282 t285 t286 _ A26.out).mono ?_); rintro e w43 ⟨v283, rfl, ho0, hb⟩; refine ⟨_, rfl, ?_⟩; have n0_ := Aside0.mk (Kd.R_below (by (with_reducible repeat (first | apply Kd.R_alloc | apply Kd.R_drewN | apply Kd.R_drew)); exact HO_7.out) hb); have n1_ := Aside0.mk (Kd.S_elder' (by (with_reducible repeat (first | apply Kd.S_alloc | apply Kd.S_drewN | apply Kd.S_drew)); exact HO_273002.out) (Kd.S_base ho0) hb); have n2_ := Aside0.mk (Kd.S_lower (Kd.S_new' ho0 (Kd.S_lt (by (with_reducible repeat (first | apply Kd.S_alloc | apply Kd.S_drewN | apply Kd.S_drew)); exact HO_273002.out))) (below_size (by repeat (first | (with_reducible first | exact HB.out | apply below_alloc | apply pw_below_drewN | apply below_drew1 | refine below_set ?_ GE272.out) | exact HB.out)))); have n3_ := Aside0.mk (blk_below (g := gb272) (o := .cells #[.int .i64 t265, .int .i64 t266, .slice Ao12 t267.length co12] 27 (0, 0)) (by (with_reducible repeat (first | refine blk_drewN ?_ _ | refine blk_drew ?_ | refine blk_alloc ?_ _)); exact BK272.out) hb); have n4_ := Aside0.mk (below_step (by repeat (first | (with_reducible first | exact HB.out | apply below_alloc | apply pw_below_drewN | apply below_drew1 | refine below_set ?_ GE272.out) | exact HB.out)) hb); clear HO_7; clear HO_273002; clear BK272; clear HB; have HO_7 := n0_; have HO_273002 := n1_; have HO284 := n2_; have BK272 := n3_; have HB := n4_; clear n0_ n1_ n2_ n3_ n4_; (try clear hb); (try clear hb2); (try clear hk); (try clear hi); (try clear ho0)) | ((with_reducible refine gate_dst (N := 10) rfl ?_); (try (refine gate_guard (by rfl) ?_; dsimp only)); refine box_event ?hg (N := 10) ?hd (cs := #[.int .i64 0, .int .i64 0, .slice none 0 0]) (t := 27) ?hr ?_; (case hd => rfl); (case hg => rfl); (case hr => first | (go_simp; done) | (go_simp; rfl)); intro gb287 hg w44 hbox hb; have n0_ := Aside0.mk (Kd.R_below (by (with_reducible repeat (first | apply Kd.R_alloc | apply Kd.R_drewN | apply Kd.R_drew)); exact HO_7.out) hb); have n1_ := Aside0.mk (Kd.S_below (by (with_reducible repeat (first | apply Kd.S_alloc | apply Kd.S_drewN | apply Kd.S_drew)); exact HO_273002.out) hb); have n2_ := Aside0.mk (Kd.S_below (by (with_reducible repeat (first | apply Kd.S_alloc | apply Kd.S_drewN | apply Kd.S_drew)); exact HO284.out) hb); have n3_ := Aside0.mk (blk_below (g := gb272) (o := .cells #[.int .i64 t265, .int .i64 t266, .slice Ao12 t267.length co12] 27 (0, 0)) (by (with_reducible repeat (first | refine blk_drewN ?_ _ | refine blk_drew ?_ | refine blk_alloc ?_ _)); exact BK272.out) hb); have n4_ := Aside0.mk (below_step (by repeat (first | (with_reducible first | exact HB.out | apply below_alloc | apply pw_below_drewN | apply below_drew1 | refine below_set ?_ GE272.out) | exact HB.out)) hb); have n5_ := Aside0.mk (hbox); have n6_ := Aside0.mk ((by rw [hg]; exact (below_size (by repeat (first | (with_reducible first | exact HB.out | apply below_alloc | apply pw_below_drewN | apply below_drew1 | refine below_set ?_ GE272.out) | exact HB.out))) : w.heap.size ≤ gb287)); have n7_ := Aside0.mk ((by rw [hg]; exact (below_size (by repeat (first | (with_reducible first | exact HB.out | apply below_alloc | apply pw_below_drewN | apply below_drew1 | refine below_set ?_ GE272.out) | exact HB.out))) : w.heap.size ≤ gb287)); have n8_ := Aside0.mk ((by rw [hg]; exact Nat.ne_of_lt (blk_lt (g := gb272) (o := .cells #[.int .i64 t265, .int .i64 t266, .slice Ao12 t267.length co12] 27 (0, 0)) (by (with_reducible repeat (first | refine blk_drewN ?_ _ | refine blk_drew ?_ | refine blk_alloc ?_ _)); exact BK272.out)) : gb272 ≠ gb287)); have n9_ := Aside0.mk ((by rw [hg]; exact Nat.ne_of_gt (blk_lt (g := gb272) (o := .cells #[.int .i64 t265, .int .i64 t266, .slice Ao12 t267.length co12] 27 (0, 0)) (by (with_reducible repeat (first | refine blk_drewN ?_ _ | refine blk_drew ?_ | refine blk_alloc ?_ _)); exact BK272.out)) : gb287 ≠ gb272)); clear HO_7; clear HO_273002; clear HO284; clear BK272; clear HB; have HO_7 := n0_; have HO_273002 := n1_; have HO284 := n2_; have BK272 := n3_; have HB := n4_; have BK287 := n5_; have GW287 := n6_; have GE287 := n7_; have NB272_287 := n8_; have NB287_272 := n9_; clear n0_ n1_ n2_ n3_ n4_ n5_ n6_ n7_ n8_ n9_; clear hb hbox hg; have hnb45 := NB287_272.out; have hnc45 := NB272_287.out; have hcz46_0 : w44.cell? ⟨gb287, 0, none⟩ = some (.int .i64 0) := (blk_cell BK287.out 0).trans rfl; have hcz46_1 : w44.cell? ⟨gb287, 1, none⟩ = some (.int .i64 0) := (blk_cell BK287.out 1).trans rfl; have hcz46_2 : w44.cell? ⟨gb287, 2, none⟩ = some (.slice none 0 0) := (blk_cell BK287.out 2).trans rfl; have hfz46_0 := blk_frozen BK287.out; obtain ⟨Ao47, co47, eo47⟩ := Kd.S_slice HO284.out; subst eo47))
             go_ret
             exact ⟨by first | rfl | (simp [errW_none, errW_some] <;> rfl) | (simp only [← hji20]; first | rfl | (simp [errW_none, errW_some] <;> rfl)) | (simp [*, errW_none, errW_some] <;> rfl), by repeat (first | (with_reducible first | exact HB.out | apply below_alloc | apply pw_below_drewN | apply below_drew1 | refine below_set ?_ GE272.out | refine below_set ?_ GE287.out) | exact HB.out)⟩
           ·replace c27 := Bool.eq_false_iff.mpr c27
            subst c27
            have H1 : (some false) = some r := by rw [if_neg (show ¬ (false = true) by decide)] at H; exact H
            clear H
            have H := H1
            clear H1
            obtain rfl := Option.some.inj H
            obtain ⟨Ao48, co48, eo48⟩ := Kd.R_slice HO_7.out
            subst eo48
            have p278 : 0 ≤ ((ji20) : Int) := of_decide_eq_true (by first | (with_reducible assumption) | assumption)
            have q278 : (ji20) < (t273.length : Int) := of_decide_eq_true (by first | (with_reducible assumption) | assumption)
            obtain ⟨ad278, e278, hx278_0, hx278_1, hx278_2, hx278_3⟩ := at_T39 (Kd.R_reads' HO_7.out).2.2 (ji20) p278 q278
            cases e278
            replace p278 := eq_true p278
            replace q278 := eq_true q278
            have p279 : 0 ≤ ((ji20) : Int) := of_decide_eq_true (by first | (with_reducible assumption) | assumption)
            have q279 : (ji20) < (t273.length : Int) := of_decide_eq_true (by first | (with_reducible assumption) | assumption)
            obtain ⟨ad279, e279, hx279_0, hx279_1, hx279_2, hx279_3⟩ := at_T39 (Kd.R_reads' HO_7.out).2.2 (ji20) p279 q279
            obtain rfl : ad278 = ad279 := (by injection e279)
            replace p279 := eq_true p279
            replace q279 := eq_true q279
            go_wp2_with (first | ((with_reducible refine gate_callee (f := 10) rfl ?_); refine goesL_ (some 69) rfl rfl Try.func10 (by kernel_rfl) rfl #[.string (a0.extract 0 (((rd_T39 t273 (ji20)).f1) : Int).toNat)] rfl (by (try simp only [List.map_toArray, List.map_cons, List.map_nil]); first | done | (simp only [hji20]; rfl) | rfl | (simp only [List.length_drop, List.length_take]; rfl)) ?_; (with_reducible refine (parse_Parse.calls kj6 (a0.extract 0 (((rd_T39 t273 (ji20)).f1) : Int).toNat) t280 t281 t282 t285 t286 _ A26.out).mono ?_); rintro e w49 ⟨v283, rfl, ho0, hb⟩; refine ⟨_, rfl, ?_⟩; have n0_ := Aside0.mk (Kd.R_below (by (with_reducible repeat (first | apply Kd.R_alloc | apply Kd.R_drewN | apply Kd.R_drew)); exact HO_7.out) hb); have n1_ := Aside0.mk (Kd.S_elder' (by (with_reducible repeat (first | apply Kd.S_alloc | apply Kd.S_drewN | apply Kd.S_drew)); exact HO_273002.out) (Kd.S_base ho0) hb); have n2_ := Aside0.mk (Kd.S_lower (Kd.S_new' ho0 (Kd.S_lt (by (with_reducible repeat (first | apply Kd.S_alloc | apply Kd.S_drewN | apply Kd.S_drew)); exact HO_273002.out))) (below_size (by repeat (first | (with_reducible first | exact HB.out | apply below_alloc | apply pw_below_drewN | apply below_drew1 | refine below_set ?_ GE272.out) | exact HB.out)))); have n3_ := Aside0.mk (blk_below (g := gb272) (o := .cells #[.int .i64 t265, .int .i64 t266, .slice Ao12 t267.length co12] 27 (0, 0)) (by (with_reducible repeat (first | refine blk_drewN ?_ _ | refine blk_drew ?_ | refine blk_alloc ?_ _)); exact BK272.out) hb); have n4_ := Aside0.mk (below_step (by repeat (first | (with_reducible first | exact HB.out | apply below_alloc | apply pw_below_drewN | apply below_drew1 | refine below_set ?_ GE272.out) | exact HB.out)) hb); clear HO_7; clear HO_273002; clear BK272; clear HB; have HO_7 := n0_; have HO_273002 := n1_; have HO284 := n2_; have BK272 := n3_; have HB := n4_; clear n0_ n1_ n2_ n3_ n4_; (try clear hb); (try clear hb2); (try clear hk); (try clear hi); (try clear ho0)) | ((with_reducible refine gate_dst (N := 10) rfl ?_); (try (refine gate_guard (by rfl) ?_; dsimp only)); refine box_event ?hg (N := 10) ?hd (cs := #[.int .i64 0, .int .i64 0, .slice none 0 0]) (t := 27) ?hr ?_; (case hd => rfl); (case hg => rfl); (case hr => first | (go_simp; done) | (go_simp; rfl)); intro gb287 hg w50 hbox hb; have n0_ := Aside0.mk (Kd.R_below (by (with_reducible repeat (first | apply Kd.R_alloc | apply Kd.R_drewN | apply Kd.R_drew)); exact HO_7.out) hb); have n1_ := Aside0.mk (Kd.S_below (by (with_reducible repeat (first | apply Kd.S_alloc | apply Kd.S_drewN | apply Kd.S_drew)); exact HO_273002.out) hb); have n2_ := Aside0.mk (Kd.S_below (by (with_reducible repeat (first | apply Kd.S_alloc | apply Kd.S_drewN | apply Kd.S_drew)); exact HO284.out) hb); have n3_ := Aside0.mk (blk_below (g := gb272) (o := .cells #[.int .i64 t265, .int .i64 t266, .slice Ao12 t267.length co12] 27 (0, 0)) (by (with_reducible repeat (first | refine blk_drewN ?_ _ | refine blk_drew ?_ | refine blk_alloc ?_ _)); exact BK272.out) hb); have n4_ := Aside0.mk (below_step (by repeat (first | (with_reducible first | exact HB.out | apply below_alloc | apply pw_below_drewN | apply below_drew1 | refine below_set ?_ GE272.out) | exact HB.out)) hb); have n5_ := Aside0.mk (hbox); have n6_ := Aside0.mk ((by rw [hg]; exact (below_size (by repeat (first | (with_reducible first | exact HB.out | apply below_alloc | apply pw_below_drewN | apply below_drew1 | refine below_set ?_ GE272.out) | exact HB.out))) : w.heap.size ≤ gb287)); have n7_ := Aside0.mk ((by rw [hg]; exact (below_size (by repeat (first | (with_reducible first | exact HB.out | apply below_alloc | apply pw_below_drewN | apply below_drew1 | refine below_set ?_ GE272.out) | exact HB.out))) : w.heap.size ≤ gb287)); have n8_ := Aside0.mk ((by rw [hg]; exact Nat.ne_of_lt (blk_lt (g := gb272) (o := .cells #[.int .i64 t265, .int .i64 t266, .slice Ao12 t267.length co12] 27 (0, 0)) (by (with_reducible repeat (first | refine blk_drewN ?_ _ | refine blk_drew ?_ | refine blk_alloc ?_ _)); exact BK272.out)) : gb272 ≠ gb287)); have n9_ := Aside0.mk ((by rw [hg]; exact Nat.ne_of_gt (blk_lt (g := gb272) (o := .cells #[.int .i64 t265, .int .i64 t266, .slice Ao12 t267.length co12] 27 (0, 0)) (by (with_reducible repeat (first | refine blk_drewN ?_ _ | refine blk_drew ?_ | refine blk_alloc ?_ _)); exact BK272.out)) : gb287 ≠ gb272)); clear HO_7; clear HO_273002; clear HO284; clear BK272; clear HB; have HO_7 := n0_; have HO_273002 := n1_; have HO284 := n2_; have BK272 := n3_; have HB := n4_; have BK287 := n5_; have GW287 := n6_; have GE287 := n7_; have NB272_287 := n8_; have NB287_272 := n9_; clear n0_ n1_ n2_ n3_ n4_ n5_ n6_ n7_ n8_ n9_; clear hb hbox hg; have hnb51 := NB287_272.out; have hnc51 := NB272_287.out; have hcz52_0 : w50.cell? ⟨gb287, 0, none⟩ = some (.int .i64 0) := (blk_cell BK287.out 0).trans rfl; have hcz52_1 : w50.cell? ⟨gb287, 1, none⟩ = some (.int .i64 0) := (blk_cell BK287.out 1).trans rfl; have hcz52_2 : w50.cell? ⟨gb287, 2, none⟩ = some (.slice none 0 0) := (blk_cell BK287.out 2).trans rfl; have hfz52_0 := blk_frozen BK287.out; obtain ⟨Ao53, co53, eo53⟩ := Kd.S_slice HO284.out; subst eo53))
            go_ret
            exact ⟨by first | rfl | (simp [errW_none, errW_some] <;> rfl) | (simp only [← hji20]; first | rfl | (simp [errW_none, errW_some] <;> rfl)) | (simp [*, errW_none, errW_some] <;> rfl), by repeat (first | (with_reducible first | exact HB.out | apply below_alloc | apply pw_below_drewN | apply below_drew1 | refine below_set ?_ GE272.out | refine below_set ?_ GE287.out) | exact HB.out)⟩
          ·rw [if_neg c25] at H
           exact absurd H (by simp)
         ·rw [if_neg c24] at H
          exact absurd H (by simp)
        ·rw [if_neg c23] at H
         have c23b0 : (((rd_T39 t273 (ji20)).f2).toList == ([59] : List UInt8)) = false := beq_eq_false_iff_ne.mpr c23
         have c23b1 : (((rd_T39 t273 (ji20)).f2).toList != ([59] : List UInt8)) = true := bne_iff_ne.mpr c23
         obtain rfl := Option.some.inj H
         obtain ⟨Ao54, co54, eo54⟩ := Kd.R_slice HO_7.out
         subst eo54
         have p278 : 0 ≤ ((ji20) : Int) := of_decide_eq_true (by first | (with_reducible assumption) | assumption)
         have q278 : (ji20) < (t273.length : Int) := of_decide_eq_true (by first | (with_reducible assumption) | assumption)
         obtain ⟨ad278, e278, hx278_0, hx278_1, hx278_2, hx278_3⟩ := at_T39 (Kd.R_reads' HO_7.out).2.2 (ji20) p278 q278
         cases e278
         replace p278 := eq_true p278
         replace q278 := eq_true q278
         go_wp2
         go_ret
         exact ⟨by first | rfl | (simp [errW_none, errW_some] <;> rfl) | (simp only [← hji20]; first | rfl | (simp [errW_none, errW_some] <;> rfl)) | (simp [*, errW_none, errW_some] <;> rfl), by repeat (first | (with_reducible first | exact HB.out | apply below_alloc | apply pw_below_drewN | apply below_drew1 | refine below_set ?_ GE272.out) | exact HB.out)⟩
       ·rw [if_neg c22] at H
        exact absurd H (by simp)
      ·rw [if_neg c21] at H
       exact absurd H (by simp)

/-- What is to be shown of fairleadlaw10_ParseCut, without Go and memory. -/
def fairleadlaw10_ParseCut.Pure : Prop := ∀ (a0 : ByteArray), (a0.size ≤ 9223372036854775807) → ∃ k, fairleadlaw10_ParseCut.f k a0 = some true

end Go.Proofs.Ytfahchgglapglaa.M
