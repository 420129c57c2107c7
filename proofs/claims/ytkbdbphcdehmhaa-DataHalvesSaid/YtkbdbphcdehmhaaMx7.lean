-- Laid by a program (wip/tools/myprint.py) out of the loaded program's own print: for each Go function a Lean function and the proof of its contract.
import Derived.Test.YtkbdbphcdehmhaaMx0
import Derived.Test.YtkbdbphcdehmhaaMx2
import Derived.Test.YtkbdbphcdehmhaaMx3
namespace Go.Proofs.Ytkbdbphcdehmhaa.M
open Go.RowKit Go.Proofs.YtkbdbphcdehmhaaW.PrintWords Go.Proofs.YtkbdbphcdehmhaaW.PrintLast Go.Proofs.YtkbdbphcdehmhaaW.PrintMore
attribute [local go_sem] max2_int min2_int max_two min_two max_three min_three max_four min_four   -- for this text's walks alone
set_option linter.unusedVariables false
set_option linter.unusedSimpArgs false

/-! ### data_Place: function 13 -/
def data_Place.f (a0 : Int) : Option (Int × Int × Int) := if a0 < 0 then (some (0, 0, 1)) else (if a0 > 5 then (some (0, 0, 1)) else (some ((wrap64 (16 + (wrap64 (8 * a0)))) % 4294967296, (((wrap64 (16 + (wrap64 (8 * a0)))) % 4294967296) + 4) % 4294967296, 0)))
set_option maxHeartbeats 8000000 in
set_option maxRecDepth 100000 in
theorem data_Place.calls (a0 : Int) (r1 : Int) (r2 : Int) (r3 : Int) (w : World) (h : data_Place.f a0 = some (r1, r2, r3)) :
    Calls Try.prog 13 #[.int .i64 a0] w fun e w' => e = .returned (.tuple #[.int .u32 r1, .int .u32 r2, .int .i64 r3]) ∧ Drawn0 w w' := by
  have H : (if a0 < 0 then (some (0, 0, 1)) else (if a0 > 5 then (some (0, 0, 1)) else (some ((wrap64 (16 + (wrap64 (8 * a0)))) % 4294967296, (((wrap64 (16 + (wrap64 (8 * a0)))) % 4294967296) + 4) % 4294967296, 0)))) = some (r1, r2, r3) := h
  clear h
  by_cases c2 : a0 < 0
  · rw [if_pos c2] at H
    have c2b0 : decide (a0 < 0) = true := decide_eq_true c2
    clear c2
    simp only [Option.some.injEq, Prod.mk.injEq] at H
    obtain ⟨rfl, rfl, rfl⟩ := H
    go_enter Try.func13, Try.ntmps13
    go_wp2
    go_ret3
    exact ⟨by first | rfl | (simp; done) | (simp [*]; done), by repeat (first | exact Drawn0.refl _ | apply Drawn0.step)⟩
  · rw [if_neg c2] at H
    have c2b0 : decide (a0 < 0) = false := decide_eq_false c2
    clear c2
    by_cases c3 : a0 > 5
    · rw [if_pos c3] at H
      have c3b0 : decide (5 < a0) = true := decide_eq_true c3
      clear c3
      simp only [Option.some.injEq, Prod.mk.injEq] at H
      obtain ⟨rfl, rfl, rfl⟩ := H
      go_enter Try.func13, Try.ntmps13
      go_wp2
      go_ret3
      exact ⟨by first | rfl | (simp; done) | (simp [*]; done), by repeat (first | exact Drawn0.refl _ | apply Drawn0.step)⟩
    · rw [if_neg c3] at H
      have c3b0 : decide (5 < a0) = false := decide_eq_false c3
      clear c3
      simp only [Option.some.injEq, Prod.mk.injEq] at H
      obtain ⟨rfl, rfl, rfl⟩ := H
      go_enter Try.func13, Try.ntmps13
      go_wp2
      go_ret3
      exact ⟨by first | rfl | (simp; done) | (simp [*]; done), by repeat (first | exact Drawn0.refl _ | apply Drawn0.step)⟩

/-! ### fairleadlaw04_DataHalves: function 6 -/
def fairleadlaw04_DataHalves.j0 : Nat → Int → Bool → Int → Int → Int → Bool → Int → Int → Int → Int → Int → Int → Int → Int → Int → Option (Bool)
  | 0, _, _, _, _, _, _, _, _, _, _, _, _, _, _, _ => none
  | k + 1, x1, x5, x6, x7, x8, x27, x264000, x264001, x264002, x264003, x264004, x264005, x264006, x264007, x264008 => if x27 = true then (if x5 = true then (if x6 = 0 then (if x7 = 0 then (some (x8 == 1)) else (some false)) else (some false)) else (some false)) else ((data_Load.f k x264000 x264001 x264002 x264003 x264004 x264005 x264006 x264007 x264008 x6).bind fun bt268 => ((data_Load.f k x264000 x264001 x264002 x264003 x264004 x264005 x264006 x264007 x264008 x7).bind fun bt270 => (if 0 ≤ x1 then (if x1 < 6 then ((data_Halves.f (rd ([x264003, x264004, x264005, x264006, x264007, x264008] : List Int) x1)).bind fun bt272 => (if x5 = true then (if x8 = 0 then (if bt268.2 = 0 then (if bt270.2 = 0 then (if bt268.1 = bt272.1 then (if bt270.1 = bt272.2 then (if (Go.bits .or .u64 (IntKind.u64.wrap ((IntKind.u64.wrap (bt272.2)) * 4294967296)) (IntKind.u64.wrap (bt272.1))) = (rd ([x264003, x264004, x264005, x264006, x264007, x264008] : List Int) x1) then (if x7 = ((x6 + 4) % 4294967296) then (some (x6 == ((wrap64 (16 + (wrap64 (8 * x1)))) % 4294967296))) else (some false)) else (some false)) else (some false)) else (some false)) else (some false)) else (some false)) else (some false)) else (some false))) else (none)) else (none))))
def fairleadlaw04_DataHalves.f (k : Nat) (a0_0 : Int) (a0_1 : Int) (a0_2 : Int) (a0_3 : Int) (a0_4 : Int) (a0_5 : Int) (a0_6 : Int) (a0_7 : Int) (a0_8 : Int) (a1 : Int) : Option (Bool) := (fairleadlaw04_awake.f k).bind fun t264 => ((data_Place.f a1).bind fun bt265 => (if a1 < 0 then (fairleadlaw04_DataHalves.j0 k a1 t264 bt265.1 bt265.2.1 bt265.2.2 true a0_0 a0_1 a0_2 a0_3 a0_4 a0_5 a0_6 a0_7 a0_8) else (fairleadlaw04_DataHalves.j0 k a1 t264 bt265.1 bt265.2.1 bt265.2.2 (decide (a1 > 5)) a0_0 a0_1 a0_2 a0_3 a0_4 a0_5 a0_6 a0_7 a0_8)))
theorem fairleadlaw04_DataHalves.mono_l : ∀ k, (∀ y0 y1 y2 y3 y4 y5 y6 y7 y8 y9 y10 y11 y12 y13 y14, LeO (fairleadlaw04_DataHalves.j0 k y0 y1 y2 y3 y4 y5 y6 y7 y8 y9 y10 y11 y12 y13 y14) (fairleadlaw04_DataHalves.j0 (k + 1) y0 y1 y2 y3 y4 y5 y6 y7 y8 y9 y10 y11 y12 y13 y14))
  | 0 => fun _ _ _ _ _ _ _ _ _ _ _ _ _ _ _ r h => by simp [fairleadlaw04_DataHalves.j0] at h
  | k + 1 => by
    have ih0 := fairleadlaw04_DataHalves.mono_l k
    · intro y0 y1 y2 y3 y4 y5 y6 y7 y8 y9 y10 y11 y12 y13 y14
      unfold fairleadlaw04_DataHalves.j0
      repeat' first
      | (with_reducible exact ih0 _ _ _ _ _ _ _ _ _ _ _ _ _ _ _)
      | (with_reducible exact data_Load.mono _ _ _ _ _ _ _ _ _ _ _)
      | (with_reducible exact fairleadlaw04_awake.mono _)
      | (with_reducible exact LeO.refl _)
      | (with_reducible exact LeO.none _)
      | (with_reducible refine LeO.ite ?_ ?_)
      | (with_reducible refine LeO.bind ?_ (fun _ => ?_))
      | exact ih0 _ _ _ _ _ _ _ _ _ _ _ _ _ _ _
      | exact data_Load.mono _ _ _ _ _ _ _ _ _ _ _
      | exact fairleadlaw04_awake.mono _
      | exact LeO.none _
      | refine LeO.ite ?_ ?_
      | refine LeO.bind ?_ (fun _ => ?_)
theorem fairleadlaw04_DataHalves.mono : ∀ a0 a1 a2 a3 a4 a5 a6 a7 a8 a9 k, LeO (fairleadlaw04_DataHalves.f k a0 a1 a2 a3 a4 a5 a6 a7 a8 a9) (fairleadlaw04_DataHalves.f (k + 1) a0 a1 a2 a3 a4 a5 a6 a7 a8 a9) := by
  intro a0 a1 a2 a3 a4 a5 a6 a7 a8 a9 k
  have ih0 := fairleadlaw04_DataHalves.mono_l k
  unfold fairleadlaw04_DataHalves.f
  repeat' first
      | (with_reducible exact ih0 _ _ _ _ _ _ _ _ _ _ _ _ _ _ _)
      | (with_reducible exact data_Load.mono _ _ _ _ _ _ _ _ _ _ _)
      | (with_reducible exact fairleadlaw04_awake.mono _)
      | (with_reducible exact LeO.refl _)
      | (with_reducible exact LeO.none _)
      | (with_reducible refine LeO.ite ?_ ?_)
      | (with_reducible refine LeO.bind ?_ (fun _ => ?_))
      | exact ih0 _ _ _ _ _ _ _ _ _ _ _ _ _ _ _
      | exact data_Load.mono _ _ _ _ _ _ _ _ _ _ _
      | exact fairleadlaw04_awake.mono _
      | exact LeO.none _
      | refine LeO.ite ?_ ?_
      | refine LeO.bind ?_ (fun _ => ?_)
set_option maxHeartbeats 8000000 in
set_option maxRecDepth 100000 in
theorem fairleadlaw04_DataHalves.calls (k : Nat) (a0_0 : Int) (a0_1 : Int) (a0_2 : Int) (a0_3 : Int) (a0_4 : Int) (a0_5 : Int) (a0_6 : Int) (a0_7 : Int) (a0_8 : Int) (a1 : Int) (r : Bool) (w : World) (h : fairleadlaw04_DataHalves.f k a0_0 a0_1 a0_2 a0_3 a0_4 a0_5 a0_6 a0_7 a0_8 a1 = some r) :
    Calls Try.prog 6 #[.agg #[.int .u32 a0_0, .int .u32 a0_1, .int .u64 a0_2, .int .u64 a0_3, .int .u64 a0_4, .int .u64 a0_5, .int .u64 a0_6, .int .u64 a0_7, .int .u64 a0_8], .int .i64 a1] w fun e w' => e = .returned (.bool r) ∧ Below w.heap.size w w' := by
  have hu26 := Try.underlying26
  have HB := Aside0.mk (Below.refl w.heap.size w)
  have H : ((fairleadlaw04_awake.f k).bind fun t264 => ((data_Place.f a1).bind fun bt265 => (if a1 < 0 then (fairleadlaw04_DataHalves.j0 k a1 t264 bt265.1 bt265.2.1 bt265.2.2 true a0_0 a0_1 a0_2 a0_3 a0_4 a0_5 a0_6 a0_7 a0_8) else (fairleadlaw04_DataHalves.j0 k a1 t264 bt265.1 bt265.2.1 bt265.2.2 (decide (a1 > 5)) a0_0 a0_1 a0_2 a0_3 a0_4 a0_5 a0_6 a0_7 a0_8)))) = some r := h
  clear h
  replace H := Option.bind_eq_some_iff.mp H
  obtain ⟨t264, A30, H⟩ := H
  replace H : ((data_Place.f a1).bind fun bt265 => (if a1 < 0 then (fairleadlaw04_DataHalves.j0 k a1 t264 bt265.1 bt265.2.1 bt265.2.2 true a0_0 a0_1 a0_2 a0_3 a0_4 a0_5 a0_6 a0_7 a0_8) else (fairleadlaw04_DataHalves.j0 k a1 t264 bt265.1 bt265.2.1 bt265.2.2 (decide (a1 > 5)) a0_0 a0_1 a0_2 a0_3 a0_4 a0_5 a0_6 a0_7 a0_8))) = some r := H
  have A3 := Aside0.mk A30
  clear A30
  replace H := Option.bind_eq_some_iff.mp H
  obtain ⟨⟨t265, t266, t267⟩, A40, H⟩ := H
  replace H : (if a1 < 0 then (fairleadlaw04_DataHalves.j0 k a1 t264 t265 t266 t267 true a0_0 a0_1 a0_2 a0_3 a0_4 a0_5 a0_6 a0_7 a0_8) else (fairleadlaw04_DataHalves.j0 k a1 t264 t265 t266 t267 (decide (a1 > 5)) a0_0 a0_1 a0_2 a0_3 a0_4 a0_5 a0_6 a0_7 a0_8)) = some r := H
  have A4 := Aside0.mk A40
  clear A40
  have HC5 := Aside0.mk H
  clear H
  go_enter Try.func6, Try.ntmps6
  go_upto_region 3 with (first | ((with_reducible refine gate_dst (N := 2) rfl ?_); refine box_event ?hg (N := 2) ?hd (cs := #[.int .u32 a0_0, .int .u32 a0_1, .int .u64 a0_2, .int .u64 a0_3, .int .u64 a0_4, .int .u64 a0_5, .int .u64 a0_6, .int .u64 a0_7, .int .u64 a0_8]) (t := 26) ?hr ?_; (case hd => rfl); (case hg => rfl); (case hr => first | (go_simp; done) | (go_simp; rfl)); intro gb263 hg w6 hbox hb; have n0_ := Aside0.mk (below_step (by repeat (first | (with_reducible first | exact HB.out | apply below_alloc | apply pw_below_drewN | apply below_drew1) | exact HB.out)) hb); have n1_ := Aside0.mk (hbox); have n2_ := Aside0.mk ((by rw [hg]; exact (below_size (by repeat (first | (with_reducible first | exact HB.out | apply below_alloc | apply pw_below_drewN | apply below_drew1) | exact HB.out))) : w.heap.size ≤ gb263)); have n3_ := Aside0.mk ((by rw [hg]; exact (below_size (by repeat (first | (with_reducible first | exact HB.out | apply below_alloc | apply pw_below_drewN | apply below_drew1) | exact HB.out))) : w.heap.size ≤ gb263)); clear HB; have HB := n0_; have BK263 := n1_; have GW263 := n2_; have GE263 := n3_; clear n0_ n1_ n2_ n3_; clear hb hbox hg) | ((with_reducible refine gate_callee (f := 9) rfl ?_); refine goesL_ (some 15) rfl rfl Try.func9 (by kernel_rfl) rfl #[] rfl (by (try simp only [List.map_toArray, List.map_cons, List.map_nil]); first | done | rfl | (simp only [List.length_drop, List.length_take]; rfl)) ?_; (with_reducible refine (fairleadlaw04_awake.calls k  t264 _ A3.out).mono ?_); rintro e w7 ⟨rfl, hb⟩; refine ⟨_, rfl, ?_⟩; have n0_ := Aside0.mk (blk_below (g := gb263) (o := .cells #[.int .u32 a0_0, .int .u32 a0_1, .int .u64 a0_2, .int .u64 a0_3, .int .u64 a0_4, .int .u64 a0_5, .int .u64 a0_6, .int .u64 a0_7, .int .u64 a0_8] 26 (0, 0)) (by (with_reducible repeat (first | refine blk_drewN ?_ _ | refine blk_drew ?_ | refine blk_alloc ?_ _)); exact BK263.out) hb); have n1_ := Aside0.mk (below_step (by repeat (first | (with_reducible first | exact HB.out | apply below_alloc | apply pw_below_drewN | apply below_drew1 | refine below_set ?_ GE263.out) | exact HB.out)) hb); clear BK263; clear HB; have BK263 := n0_; have HB := n1_; clear n0_ n1_; (try clear hb); (try clear hb2); (try clear hk); (try clear hi)) | ((with_reducible refine gate_callee (f := 13) rfl ?_); refine goesL_ (some 18) rfl rfl Try.func13 (by kernel_rfl) rfl #[.int .i64 a1] rfl (by (try simp only [List.map_toArray, List.map_cons, List.map_nil]); first | done | rfl | (simp only [List.length_drop, List.length_take]; rfl)) ?_; (with_reducible refine (data_Place.calls a1 t265 t266 t267 _ A4.out).mono ?_); rintro e w' ⟨rfl, ⟨nd, rfl⟩⟩; refine ⟨_, rfl, ?_⟩))
  (try simp only [Act.put, List.setIfInBounds_toArray, List.set_cons_zero, List.set_cons_succ])
  go_cut [27] (fun v27 wc => ∃ (kq : Nat) (x27_4 : Bool), v27 = .bool x27_4 ∧ Aside0 (fairleadlaw04_DataHalves.j0 kq a1 t264 t265 t266 t267 x27_4 a0_0 a0_1 a0_2 a0_3 a0_4 a0_5 a0_6 a0_7 a0_8 = some r) ∧ Aside0 (kq ≤ k) ∧ Aside0 (wc.heap[gb263]? = some (.cells #[.int .u32 a0_0, .int .u32 a0_1, .int .u64 a0_2, .int .u64 a0_3, .int .u64 a0_4, .int .u64 a0_5, .int .u64 a0_6, .int .u64 a0_7, .int .u64 a0_8] 26 (0, 0))) ∧ Aside0 (Below w.heap.size w wc))
  case first =>
    have H := HC5.out
    clear HC5
    by_cases c8 : a1 < 0
    · rw [if_pos c8] at H
      have c8b0 : decide (a1 < 0) = true := decide_eq_true c8
      clear c8
      (first | rw [c8b0] | (simp only [i64_w, i32_w]; rw [c8b0]) | skip)
      have H' := Aside0.mk H
      clear H
      go_wp2
      go_meet
      case rel => exact ⟨_, (true), (by first | rfl | (simp; done) | (simp [*]; done)), H', ⟨by first | omega | exact Nat.le_refl _⟩, ⟨by (with_reducible repeat (first | refine blk_drewN ?_ _ | refine blk_drew ?_ | refine blk_alloc ?_ _)); exact BK263.out⟩, ⟨by repeat (first | (with_reducible first | exact HB.out | apply below_alloc | apply pw_below_drewN | apply below_drew1 | refine below_set ?_ GE263.out) | exact HB.out)⟩⟩
    · rw [if_neg c8] at H
      have c8b0 : decide (a1 < 0) = false := decide_eq_false c8
      clear c8
      (first | rw [c8b0] | (simp only [i64_w, i32_w]; rw [c8b0]) | skip)
      have H' := Aside0.mk H
      clear H
      go_wp2
      go_meet
      case rel => exact ⟨_, (decide (a1 > 5)), (by first | rfl | (simp; done) | (simp [*]; done)), H', ⟨by first | omega | exact Nat.le_refl _⟩, ⟨by (with_reducible repeat (first | refine blk_drewN ?_ _ | refine blk_drew ?_ | refine blk_alloc ?_ _)); exact BK263.out⟩, ⟨by repeat (first | (with_reducible first | exact HB.out | apply below_alloc | apply pw_below_drewN | apply below_drew1 | refine below_set ?_ GE263.out) | exact HB.out)⟩⟩
  case rest =>
    clear HC5
    try clear c1
    try clear p2
    try clear c6
    try clear c8
    try clear c8b0
    obtain ⟨kq, x27_4, rfl, HA, HJ4, BK263, HB⟩ := hcut
    cases kq with
    | zero => exact absurd HA.out (by simp [fairleadlaw04_DataHalves.j0])
    | succ kj4 =>
      have H := HA.out
      clear HA
      simp only [fairleadlaw04_DataHalves.j0] at H
      by_cases c9 : x27_4 = true
      · subst c9
        have H1 : (if t264 = true then (if t265 = 0 then (if t266 = 0 then (some (t267 == 1)) else (some false)) else (some false)) else (some false)) = some r := by rw [if_pos rfl] at H; exact H
        clear H
        have H := H1
        clear H1
        by_cases c10 : t264 = true
        · subst c10
          have H1 : (if t265 = 0 then (if t266 = 0 then (some (t267 == 1)) else (some false)) else (some false)) = some r := by rw [if_pos rfl] at H; exact H
          clear H
          have H := H1
          clear H1
          by_cases c11 : t265 = 0
          · rw [if_pos c11] at H
            have c11b0 : (t265 == 0) = true := beq_iff_eq.mpr c11
            have c11b1 : (t265 != 0) = false := bne_eq_false_iff_eq.mpr c11
            clear c11
            by_cases c12 : t266 = 0
            · rw [if_pos c12] at H
              have c12b0 : (t266 == 0) = true := beq_iff_eq.mpr c12
              have c12b1 : (t266 != 0) = false := bne_eq_false_iff_eq.mpr c12
              clear c12
              obtain rfl := Option.some.inj H
              go_wp2
              go_ret
              exact ⟨by first | rfl | (simp [errW_none, errW_some] <;> rfl) | (simp [*, errW_none, errW_some] <;> rfl), by repeat (first | (with_reducible first | exact HB.out | apply below_alloc | apply pw_below_drewN | apply below_drew1 | refine below_set ?_ GE263.out) | exact HB.out)⟩
            · rw [if_neg c12] at H
              have c12b0 : (t266 == 0) = false := beq_eq_false_iff_ne.mpr c12
              have c12b1 : (t266 != 0) = true := bne_iff_ne.mpr c12
              obtain rfl := Option.some.inj H
              go_wp2
              go_ret
              exact ⟨by first | rfl | (simp [errW_none, errW_some] <;> rfl) | (simp [*, errW_none, errW_some] <;> rfl), by repeat (first | (with_reducible first | exact HB.out | apply below_alloc | apply pw_below_drewN | apply below_drew1 | refine below_set ?_ GE263.out) | exact HB.out)⟩
          · rw [if_neg c11] at H
            have c11b0 : (t265 == 0) = false := beq_eq_false_iff_ne.mpr c11
            have c11b1 : (t265 != 0) = true := bne_iff_ne.mpr c11
            obtain rfl := Option.some.inj H
            go_wp2
            go_ret
            exact ⟨by first | rfl | (simp [errW_none, errW_some] <;> rfl) | (simp [*, errW_none, errW_some] <;> rfl), by repeat (first | (with_reducible first | exact HB.out | apply below_alloc | apply pw_below_drewN | apply below_drew1 | refine below_set ?_ GE263.out) | exact HB.out)⟩
        · replace c10 := Bool.eq_false_iff.mpr c10
          subst c10
          have H1 : (some false) = some r := by rw [if_neg (show ¬ (false = true) by decide)] at H; exact H
          clear H
          have H := H1
          clear H1
          obtain rfl := Option.some.inj H
          go_wp2
          go_ret
          exact ⟨by first | rfl | (simp [errW_none, errW_some] <;> rfl) | (simp [*, errW_none, errW_some] <;> rfl), by repeat (first | (with_reducible first | exact HB.out | apply below_alloc | apply pw_below_drewN | apply below_drew1 | refine below_set ?_ GE263.out) | exact HB.out)⟩
      · replace c9 := Bool.eq_false_iff.mpr c9
        subst c9
        have H1 : ((data_Load.f kj4 a0_0 a0_1 a0_2 a0_3 a0_4 a0_5 a0_6 a0_7 a0_8 t265).bind fun bt268 => ((data_Load.f kj4 a0_0 a0_1 a0_2 a0_3 a0_4 a0_5 a0_6 a0_7 a0_8 t266).bind fun bt270 => (if 0 ≤ a1 then (if a1 < 6 then ((data_Halves.f (rd ([a0_3, a0_4, a0_5, a0_6, a0_7, a0_8] : List Int) a1)).bind fun bt272 => (if t264 = true then (if t267 = 0 then (if bt268.2 = 0 then (if bt270.2 = 0 then (if bt268.1 = bt272.1 then (if bt270.1 = bt272.2 then (if (Go.bits .or .u64 (IntKind.u64.wrap ((IntKind.u64.wrap (bt272.2)) * 4294967296)) (IntKind.u64.wrap (bt272.1))) = (rd ([a0_3, a0_4, a0_5, a0_6, a0_7, a0_8] : List Int) a1) then (if t266 = ((t265 + 4) % 4294967296) then (some (t265 == ((wrap64 (16 + (wrap64 (8 * a1)))) % 4294967296))) else (some false)) else (some false)) else (some false)) else (some false)) else (some false)) else (some false)) else (some false)) else (some false))) else (none)) else (none)))) = some r := by rw [if_neg (show ¬ (false = true) by decide)] at H; exact H
        clear H
        have H := H1
        clear H1
        replace H := Option.bind_eq_some_iff.mp H
        obtain ⟨⟨t268, t269⟩, A130, H⟩ := H
        replace H : ((data_Load.f kj4 a0_0 a0_1 a0_2 a0_3 a0_4 a0_5 a0_6 a0_7 a0_8 t266).bind fun bt270 => (if 0 ≤ a1 then (if a1 < 6 then ((data_Halves.f (rd ([a0_3, a0_4, a0_5, a0_6, a0_7, a0_8] : List Int) a1)).bind fun bt272 => (if t264 = true then (if t267 = 0 then (if t269 = 0 then (if bt270.2 = 0 then (if t268 = bt272.1 then (if bt270.1 = bt272.2 then (if (Go.bits .or .u64 (IntKind.u64.wrap ((IntKind.u64.wrap (bt272.2)) * 4294967296)) (IntKind.u64.wrap (bt272.1))) = (rd ([a0_3, a0_4, a0_5, a0_6, a0_7, a0_8] : List Int) a1) then (if t266 = ((t265 + 4) % 4294967296) then (some (t265 == ((wrap64 (16 + (wrap64 (8 * a1)))) % 4294967296))) else (some false)) else (some false)) else (some false)) else (some false)) else (some false)) else (some false)) else (some false)) else (some false))) else (none)) else (none))) = some r := H
        have A13 := Aside0.mk A130
        clear A130
        replace H := Option.bind_eq_some_iff.mp H
        obtain ⟨⟨t270, t271⟩, A140, H⟩ := H
        replace H : (if 0 ≤ a1 then (if a1 < 6 then ((data_Halves.f (rd ([a0_3, a0_4, a0_5, a0_6, a0_7, a0_8] : List Int) a1)).bind fun bt272 => (if t264 = true then (if t267 = 0 then (if t269 = 0 then (if t271 = 0 then (if t268 = bt272.1 then (if t270 = bt272.2 then (if (Go.bits .or .u64 (IntKind.u64.wrap ((IntKind.u64.wrap (bt272.2)) * 4294967296)) (IntKind.u64.wrap (bt272.1))) = (rd ([a0_3, a0_4, a0_5, a0_6, a0_7, a0_8] : List Int) a1) then (if t266 = ((t265 + 4) % 4294967296) then (some (t265 == ((wrap64 (16 + (wrap64 (8 * a1)))) % 4294967296))) else (some false)) else (some false)) else (some false)) else (some false)) else (some false)) else (some false)) else (some false)) else (some false))) else (none)) else (none)) = some r := H
        have A14 := Aside0.mk A140
        clear A140
        by_cases c15 : 0 ≤ a1
        · rw [if_pos c15] at H
          have c15b0 : decide (0 ≤ a1) = true := decide_eq_true c15
          clear c15
          by_cases c16 : a1 < 6
          · rw [if_pos c16] at H
            have c16b0 : decide (a1 < 6) = true := decide_eq_true c16
            clear c16
            replace H := Option.bind_eq_some_iff.mp H
            obtain ⟨⟨t272, t273⟩, A170, H⟩ := H
            replace H : (if t264 = true then (if t267 = 0 then (if t269 = 0 then (if t271 = 0 then (if t268 = t272 then (if t270 = t273 then (if (Go.bits .or .u64 (IntKind.u64.wrap ((IntKind.u64.wrap (t273)) * 4294967296)) (IntKind.u64.wrap (t272))) = (rd ([a0_3, a0_4, a0_5, a0_6, a0_7, a0_8] : List Int) a1) then (if t266 = ((t265 + 4) % 4294967296) then (some (t265 == ((wrap64 (16 + (wrap64 (8 * a1)))) % 4294967296))) else (some false)) else (some false)) else (some false)) else (some false)) else (some false)) else (some false)) else (some false)) else (some false)) = some r := H
            have A17 := Aside0.mk A170
            clear A170
            by_cases c18 : t264 = true
            · subst c18
              have H1 : (if t267 = 0 then (if t269 = 0 then (if t271 = 0 then (if t268 = t272 then (if t270 = t273 then (if (Go.bits .or .u64 (IntKind.u64.wrap ((IntKind.u64.wrap (t273)) * 4294967296)) (IntKind.u64.wrap (t272))) = (rd ([a0_3, a0_4, a0_5, a0_6, a0_7, a0_8] : List Int) a1) then (if t266 = ((t265 + 4) % 4294967296) then (some (t265 == ((wrap64 (16 + (wrap64 (8 * a1)))) % 4294967296))) else (some false)) else (some false)) else (some false)) else (some false)) else (some false)) else (some false)) else (some false)) = some r := by rw [if_pos rfl] at H; exact H
              clear H
              have H := H1
              clear H1
              by_cases c19 : t267 = 0
              · rw [if_pos c19] at H
                have c19b0 : (t267 == 0) = true := beq_iff_eq.mpr c19
                have c19b1 : (t267 != 0) = false := bne_eq_false_iff_eq.mpr c19
                clear c19
                by_cases c20 : t269 = 0
                · rw [if_pos c20] at H
                  have c20b0 : (t269 == 0) = true := beq_iff_eq.mpr c20
                  have c20b1 : (t269 != 0) = false := bne_eq_false_iff_eq.mpr c20
                  clear c20
                  by_cases c21 : t271 = 0
                  · rw [if_pos c21] at H
                    have c21b0 : (t271 == 0) = true := beq_iff_eq.mpr c21
                    have c21b1 : (t271 != 0) = false := bne_eq_false_iff_eq.mpr c21
                    clear c21
                    by_cases c22 : t268 = t272
                    · rw [if_pos c22] at H
                      have c22b0 : (t268 == t272) = true := beq_iff_eq.mpr c22
                      have c22b1 : (t268 != t272) = false := bne_eq_false_iff_eq.mpr c22
                      clear c22
                      by_cases c23 : t270 = t273
                      · rw [if_pos c23] at H
                        have c23b0 : (t270 == t273) = true := beq_iff_eq.mpr c23
                        have c23b1 : (t270 != t273) = false := bne_eq_false_iff_eq.mpr c23
                        clear c23
                        by_cases c24 : (Go.bits .or .u64 (IntKind.u64.wrap ((IntKind.u64.wrap (t273)) * 4294967296)) (IntKind.u64.wrap (t272))) = (rd ([a0_3, a0_4, a0_5, a0_6, a0_7, a0_8] : List Int) a1)
                        · rw [if_pos c24] at H
                          have c24b0 : ((Go.bits .or .u64 (IntKind.u64.wrap ((IntKind.u64.wrap (t273)) * 4294967296)) (IntKind.u64.wrap (t272))) == (rd ([a0_3, a0_4, a0_5, a0_6, a0_7, a0_8] : List Int) a1)) = true := beq_iff_eq.mpr c24
                          have c24b1 : ((Go.bits .or .u64 (IntKind.u64.wrap ((IntKind.u64.wrap (t273)) * 4294967296)) (IntKind.u64.wrap (t272))) != (rd ([a0_3, a0_4, a0_5, a0_6, a0_7, a0_8] : List Int) a1)) = false := bne_eq_false_iff_eq.mpr c24
                          clear c24
                          by_cases c25 : t266 = ((t265 + 4) % 4294967296)
                          · rw [if_pos c25] at H
                            have c25b0 : (t266 == ((t265 + 4) % 4294967296)) = true := beq_iff_eq.mpr c25
                            have c25b1 : (t266 != ((t265 + 4) % 4294967296)) = false := bne_eq_false_iff_eq.mpr c25
                            clear c25
                            obtain rfl := Option.some.inj H
                            have hcz26_0 : wc.cell? ⟨gb263, 0, none⟩ = some (.int .u32 a0_0) := (blk_cell BK263.out 0).trans rfl
                            have hcz26_1 : wc.cell? ⟨gb263, 1, none⟩ = some (.int .u32 a0_1) := (blk_cell BK263.out 1).trans rfl
                            have hcz26_2 : wc.cell? ⟨gb263, 2, none⟩ = some (.int .u64 a0_2) := (blk_cell BK263.out 2).trans rfl
                            have hcz26_3 : wc.cell? ⟨gb263, 3, none⟩ = some (.int .u64 a0_3) := (blk_cell BK263.out 3).trans rfl
                            have hcz26_4 : wc.cell? ⟨gb263, 4, none⟩ = some (.int .u64 a0_4) := (blk_cell BK263.out 4).trans rfl
                            have hcz26_5 : wc.cell? ⟨gb263, 5, none⟩ = some (.int .u64 a0_5) := (blk_cell BK263.out 5).trans rfl
                            have hcz26_6 : wc.cell? ⟨gb263, 6, none⟩ = some (.int .u64 a0_6) := (blk_cell BK263.out 6).trans rfl
                            have hcz26_7 : wc.cell? ⟨gb263, 7, none⟩ = some (.int .u64 a0_7) := (blk_cell BK263.out 7).trans rfl
                            have hcz26_8 : wc.cell? ⟨gb263, 8, none⟩ = some (.int .u64 a0_8) := (blk_cell BK263.out 8).trans rfl
                            have hfz26_0 := blk_frozen BK263.out 0
                            have hfz26_1 := blk_frozen BK263.out 1
                            have hfz26_2 := blk_frozen BK263.out 2
                            have hfz26_3 := blk_frozen BK263.out 3
                            have hfz26_4 := blk_frozen BK263.out 4
                            have hfz26_5 := blk_frozen BK263.out 5
                            have hfz26_6 := blk_frozen BK263.out 6
                            have hfz26_7 := blk_frozen BK263.out 7
                            have hfz26_8 := blk_frozen BK263.out 8
                            go_wp2_with (first | ((with_reducible refine gate_callee (f := 11) rfl ?_); refine goesL_ (some 44) rfl rfl Try.func11 (by kernel_rfl) rfl #[.agg #[.int .u32 a0_0, .int .u32 a0_1, .int .u64 a0_2, .int .u64 a0_3, .int .u64 a0_4, .int .u64 a0_5, .int .u64 a0_6, .int .u64 a0_7, .int .u64 a0_8], .int .u32 t265] rfl (by (try simp only [List.map_toArray, List.map_cons, List.map_nil]); first | done | rfl | (simp only [List.length_drop, List.length_take]; rfl)) ?_; (with_reducible refine (data_Load.calls kj4 a0_0 a0_1 a0_2 a0_3 a0_4 a0_5 a0_6 a0_7 a0_8 t265 t268 t269 _ A13.out).mono ?_); rintro e w27 ⟨rfl, hb⟩; refine ⟨_, rfl, ?_⟩; have n0_ := Aside0.mk (blk_below (g := gb263) (o := .cells #[.int .u32 a0_0, .int .u32 a0_1, .int .u64 a0_2, .int .u64 a0_3, .int .u64 a0_4, .int .u64 a0_5, .int .u64 a0_6, .int .u64 a0_7, .int .u64 a0_8] 26 (0, 0)) (by (with_reducible repeat (first | refine blk_drewN ?_ _ | refine blk_drew ?_ | refine blk_alloc ?_ _)); exact BK263.out) hb); have n1_ := Aside0.mk (below_step (by repeat (first | (with_reducible first | exact HB.out | apply below_alloc | apply pw_below_drewN | apply below_drew1 | refine below_set ?_ GE263.out) | exact HB.out)) hb); clear BK263; clear HB; have BK263 := n0_; have HB := n1_; clear n0_ n1_; (try clear hb); (try clear hb2); (try clear hk); (try clear hi); have hcz28_0 : w27.cell? ⟨gb263, 0, none⟩ = some (.int .u32 a0_0) := (blk_cell BK263.out 0).trans rfl; have hcz28_1 : w27.cell? ⟨gb263, 1, none⟩ = some (.int .u32 a0_1) := (blk_cell BK263.out 1).trans rfl; have hcz28_2 : w27.cell? ⟨gb263, 2, none⟩ = some (.int .u64 a0_2) := (blk_cell BK263.out 2).trans rfl; have hcz28_3 : w27.cell? ⟨gb263, 3, none⟩ = some (.int .u64 a0_3) := (blk_cell BK263.out 3).trans rfl; have hcz28_4 : w27.cell? ⟨gb263, 4, none⟩ = some (.int .u64 a0_4) := (blk_cell BK263.out 4).trans rfl; have hcz28_5 : w27.cell? ⟨gb263, 5, none⟩ = some (.int .u64 a0_5) := (blk_cell BK263.out 5).trans rfl; have hcz28_6 : w27.cell? ⟨gb263, 6, none⟩ = some (.int .u64 a0_6) := (blk_cell BK263.out 6).trans rfl; have hcz28_7 : w27.cell? ⟨gb263, 7, none⟩ = some (.int .u64 a0_7) := (blk_cell BK263.out 7).trans rfl; have hcz28_8 : w27.cell? ⟨gb263, 8, none⟩ = some (.int .u64 a0_8) := (blk_cell BK263.out 8).trans rfl; have hfz28_0 := blk_frozen BK263.out 0; have hfz28_1 := blk_frozen BK263.out 1; have hfz28_2 := blk_frozen BK263.out 2; have hfz28_3 := blk_frozen BK263.out 3; have hfz28_4 := blk_frozen BK263.out 4; have hfz28_5 := blk_frozen BK263.out 5; have hfz28_6 := blk_frozen BK263.out 6; have hfz28_7 := blk_frozen BK263.out 7; have hfz28_8 := blk_frozen BK263.out 8) | ((with_reducible refine gate_callee (f := 11) rfl ?_); refine goesL_ (some 50) rfl rfl Try.func11 (by kernel_rfl) rfl #[.agg #[.int .u32 a0_0, .int .u32 a0_1, .int .u64 a0_2, .int .u64 a0_3, .int .u64 a0_4, .int .u64 a0_5, .int .u64 a0_6, .int .u64 a0_7, .int .u64 a0_8], .int .u32 t266] rfl (by (try simp only [List.map_toArray, List.map_cons, List.map_nil]); first | done | rfl | (simp only [List.length_drop, List.length_take]; rfl)) ?_; (with_reducible refine (data_Load.calls kj4 a0_0 a0_1 a0_2 a0_3 a0_4 a0_5 a0_6 a0_7 a0_8 t266 t270 t271 _ A14.out).mono ?_); rintro e w29 ⟨rfl, hb⟩; refine ⟨_, rfl, ?_⟩; have n0_ := Aside0.mk (blk_below (g := gb263) (o := .cells #[.int .u32 a0_0, .int .u32 a0_1, .int .u64 a0_2, .int .u64 a0_3, .int .u64 a0_4, .int .u64 a0_5, .int .u64 a0_6, .int .u64 a0_7, .int .u64 a0_8] 26 (0, 0)) (by (with_reducible repeat (first | refine blk_drewN ?_ _ | refine blk_drew ?_ | refine blk_alloc ?_ _)); exact BK263.out) hb); have n1_ := Aside0.mk (below_step (by repeat (first | (with_reducible first | exact HB.out | apply below_alloc | apply pw_below_drewN | apply below_drew1 | refine below_set ?_ GE263.out) | exact HB.out)) hb); clear BK263; clear HB; have BK263 := n0_; have HB := n1_; clear n0_ n1_; (try clear hb); (try clear hb2); (try clear hk); (try clear hi); have hcz30_0 : w29.cell? ⟨gb263, 0, none⟩ = some (.int .u32 a0_0) := (blk_cell BK263.out 0).trans rfl; have hcz30_1 : w29.cell? ⟨gb263, 1, none⟩ = some (.int .u32 a0_1) := (blk_cell BK263.out 1).trans rfl; have hcz30_2 : w29.cell? ⟨gb263, 2, none⟩ = some (.int .u64 a0_2) := (blk_cell BK263.out 2).trans rfl; have hcz30_3 : w29.cell? ⟨gb263, 3, none⟩ = some (.int .u64 a0_3) := (blk_cell BK263.out 3).trans rfl; have hcz30_4 : w29.cell? ⟨gb263, 4, none⟩ = some (.int .u64 a0_4) := (blk_cell BK263.out 4).trans rfl; have hcz30_5 : w29.cell? ⟨gb263, 5, none⟩ = some (.int .u64 a0_5) := (blk_cell BK263.out 5).trans rfl; have hcz30_6 : w29.cell? ⟨gb263, 6, none⟩ = some (.int .u64 a0_6) := (blk_cell BK263.out 6).trans rfl; have hcz30_7 : w29.cell? ⟨gb263, 7, none⟩ = some (.int .u64 a0_7) := (blk_cell BK263.out 7).trans rfl; have hcz30_8 : w29.cell? ⟨gb263, 8, none⟩ = some (.int .u64 a0_8) := (blk_cell BK263.out 8).trans rfl; have hfz30_0 := blk_frozen BK263.out 0; have hfz30_1 := blk_frozen BK263.out 1; have hfz30_2 := blk_frozen BK263.out 2; have hfz30_3 := blk_frozen BK263.out 3; have hfz30_4 := blk_frozen BK263.out 4; have hfz30_5 := blk_frozen BK263.out 5; have hfz30_6 := blk_frozen BK263.out 6; have hfz30_7 := blk_frozen BK263.out 7; have hfz30_8 := blk_frozen BK263.out 8; have ps31 : 0 ≤ (a1 : Int) := of_decide_eq_true (by first | (with_reducible assumption) | assumption); have qs31 : (a1 : Int) < 6 := of_decide_eq_true (by first | (with_reducible assumption) | assumption); have hs31 := Mine.blk_at BK263.out 3 .u64 ([a0_3, a0_4, a0_5, a0_6, a0_7, a0_8] : List Int) rfl (a1) ps31 qs31; replace ps31 := eq_true ps31; replace qs31 := eq_true qs31) | ((with_reducible refine gate_callee (f := 14) rfl ?_); refine goesL_ (some 58) rfl rfl Try.func14 (by kernel_rfl) rfl #[.int .u64 (rd ([a0_3, a0_4, a0_5, a0_6, a0_7, a0_8] : List Int) a1)] rfl (by (try simp only [List.map_toArray, List.map_cons, List.map_nil]); first | done | rfl | (simp only [List.length_drop, List.length_take]; rfl)) ?_; (with_reducible refine (data_Halves.calls (rd ([a0_3, a0_4, a0_5, a0_6, a0_7, a0_8] : List Int) a1) t272 t273 _ A17.out).mono ?_); rintro e w' ⟨rfl, ⟨nd, rfl⟩⟩; refine ⟨_, rfl, ?_⟩; have ps32 : 0 ≤ (a1 : Int) := of_decide_eq_true (by first | (with_reducible assumption) | assumption); have qs32 : (a1 : Int) < 6 := of_decide_eq_true (by first | (with_reducible assumption) | assumption); have hs32 := Mine.blk_at BK263.out 3 .u64 ([a0_3, a0_4, a0_5, a0_6, a0_7, a0_8] : List Int) rfl (a1) ps32 qs32; replace ps32 := eq_true ps32; replace qs32 := eq_true qs32))
                            go_ret
                            exact ⟨by first | rfl | (simp [errW_none, errW_some] <;> rfl) | (simp [*, errW_none, errW_some] <;> rfl), by repeat (first | (with_reducible first | exact HB.out | apply below_alloc | apply pw_below_drewN | apply below_drew1 | refine below_set ?_ GE263.out) | exact HB.out)⟩
                          · rw [if_neg c25] at H
                            have c25b0 : (t266 == ((t265 + 4) % 4294967296)) = false := beq_eq_false_iff_ne.mpr c25
                            have c25b1 : (t266 != ((t265 + 4) % 4294967296)) = true := bne_iff_ne.mpr c25
                            obtain rfl := Option.some.inj H
                            have hcz33_0 : wc.cell? ⟨gb263, 0, none⟩ = some (.int .u32 a0_0) := (blk_cell BK263.out 0).trans rfl
                            have hcz33_1 : wc.cell? ⟨gb263, 1, none⟩ = some (.int .u32 a0_1) := (blk_cell BK263.out 1).trans rfl
                            have hcz33_2 : wc.cell? ⟨gb263, 2, none⟩ = some (.int .u64 a0_2) := (blk_cell BK263.out 2).trans rfl
                            have hcz33_3 : wc.cell? ⟨gb263, 3, none⟩ = some (.int .u64 a0_3) := (blk_cell BK263.out 3).trans rfl
                            have hcz33_4 : wc.cell? ⟨gb263, 4, none⟩ = some (.int .u64 a0_4) := (blk_cell BK263.out 4).trans rfl
                            have hcz33_5 : wc.cell? ⟨gb263, 5, none⟩ = some (.int .u64 a0_5) := (blk_cell BK263.out 5).trans rfl
                            have hcz33_6 : wc.cell? ⟨gb263, 6, none⟩ = some (.int .u64 a0_6) := (blk_cell BK263.out 6).trans rfl
                            have hcz33_7 : wc.cell? ⟨gb263, 7, none⟩ = some (.int .u64 a0_7) := (blk_cell BK263.out 7).trans rfl
                            have hcz33_8 : wc.cell? ⟨gb263, 8, none⟩ = some (.int .u64 a0_8) := (blk_cell BK263.out 8).trans rfl
                            have hfz33_0 := blk_frozen BK263.out 0
                            have hfz33_1 := blk_frozen BK263.out 1
                            have hfz33_2 := blk_frozen BK263.out 2
                            have hfz33_3 := blk_frozen BK263.out 3
                            have hfz33_4 := blk_frozen BK263.out 4
                            have hfz33_5 := blk_frozen BK263.out 5
                            have hfz33_6 := blk_frozen BK263.out 6
                            have hfz33_7 := blk_frozen BK263.out 7
                            have hfz33_8 := blk_frozen BK263.out 8
                            go_wp2_with (first | ((with_reducible refine gate_callee (f := 11) rfl ?_); refine goesL_ (some 44) rfl rfl Try.func11 (by kernel_rfl) rfl #[.agg #[.int .u32 a0_0, .int .u32 a0_1, .int .u64 a0_2, .int .u64 a0_3, .int .u64 a0_4, .int .u64 a0_5, .int .u64 a0_6, .int .u64 a0_7, .int .u64 a0_8], .int .u32 t265] rfl (by (try simp only [List.map_toArray, List.map_cons, List.map_nil]); first | done | rfl | (simp only [List.length_drop, List.length_take]; rfl)) ?_; (with_reducible refine (data_Load.calls kj4 a0_0 a0_1 a0_2 a0_3 a0_4 a0_5 a0_6 a0_7 a0_8 t265 t268 t269 _ A13.out).mono ?_); rintro e w34 ⟨rfl, hb⟩; refine ⟨_, rfl, ?_⟩; have n0_ := Aside0.mk (blk_below (g := gb263) (o := .cells #[.int .u32 a0_0, .int .u32 a0_1, .int .u64 a0_2, .int .u64 a0_3, .int .u64 a0_4, .int .u64 a0_5, .int .u64 a0_6, .int .u64 a0_7, .int .u64 a0_8] 26 (0, 0)) (by (with_reducible repeat (first | refine blk_drewN ?_ _ | refine blk_drew ?_ | refine blk_alloc ?_ _)); exact BK263.out) hb); have n1_ := Aside0.mk (below_step (by repeat (first | (with_reducible first | exact HB.out | apply below_alloc | apply pw_below_drewN | apply below_drew1 | refine below_set ?_ GE263.out) | exact HB.out)) hb); clear BK263; clear HB; have BK263 := n0_; have HB := n1_; clear n0_ n1_; (try clear hb); (try clear hb2); (try clear hk); (try clear hi); have hcz35_0 : w34.cell? ⟨gb263, 0, none⟩ = some (.int .u32 a0_0) := (blk_cell BK263.out 0).trans rfl; have hcz35_1 : w34.cell? ⟨gb263, 1, none⟩ = some (.int .u32 a0_1) := (blk_cell BK263.out 1).trans rfl; have hcz35_2 : w34.cell? ⟨gb263, 2, none⟩ = some (.int .u64 a0_2) := (blk_cell BK263.out 2).trans rfl; have hcz35_3 : w34.cell? ⟨gb263, 3, none⟩ = some (.int .u64 a0_3) := (blk_cell BK263.out 3).trans rfl; have hcz35_4 : w34.cell? ⟨gb263, 4, none⟩ = some (.int .u64 a0_4) := (blk_cell BK263.out 4).trans rfl; have hcz35_5 : w34.cell? ⟨gb263, 5, none⟩ = some (.int .u64 a0_5) := (blk_cell BK263.out 5).trans rfl; have hcz35_6 : w34.cell? ⟨gb263, 6, none⟩ = some (.int .u64 a0_6) := (blk_cell BK263.out 6).trans rfl; have hcz35_7 : w34.cell? ⟨gb263, 7, none⟩ = some (.int .u64 a0_7) := (blk_cell BK263.out 7).trans rfl; have hcz35_8 : w34.cell? ⟨gb263, 8, none⟩ = some (.int .u64 a0_8) := (blk_cell BK263.out 8).trans rfl; have hfz35_0 := blk_frozen BK263.out 0; have hfz35_1 := blk_frozen BK263.out 1; have hfz35_2 := blk_frozen BK263.out 2; have hfz35_3 := blk_frozen BK263.out 3; have hfz35_4 := blk_frozen BK263.out 4; have hfz35_5 := blk_frozen BK263.out 5; have hfz35_6 := blk_frozen BK263.out 6; have hfz35_7 := blk_frozen BK263.out 7; have hfz35_8 := blk_frozen BK263.out 8) | ((with_reducible refine gate_callee (f := 11) rfl ?_); refine goesL_ (some 50) rfl rfl Try.func11 (by kernel_rfl) rfl #[.agg #[.int .u32 a0_0, .int .u32 a0_1, .int .u64 a0_2, .int .u64 a0_3, .int .u64 a0_4, .int .u64 a0_5, .int .u64 a0_6, .int .u64 a0_7, .int .u64 a0_8], .int .u32 t266] rfl (by (try simp only [List.map_toArray, List.map_cons, List.map_nil]); first | done | rfl | (simp only [List.length_drop, List.length_take]; rfl)) ?_; (with_reducible refine (data_Load.calls kj4 a0_0 a0_1 a0_2 a0_3 a0_4 a0_5 a0_6 a0_7 a0_8 t266 t270 t271 _ A14.out).mono ?_); rintro e w36 ⟨rfl, hb⟩; refine ⟨_, rfl, ?_⟩; have n0_ := Aside0.mk (blk_below (g := gb263) (o := .cells #[.int .u32 a0_0, .int .u32 a0_1, .int .u64 a0_2, .int .u64 a0_3, .int .u64 a0_4, .int .u64 a0_5, .int .u64 a0_6, .int .u64 a0_7, .int .u64 a0_8] 26 (0, 0)) (by (with_reducible repeat (first | refine blk_drewN ?_ _ | refine blk_drew ?_ | refine blk_alloc ?_ _)); exact BK263.out) hb); have n1_ := Aside0.mk (below_step (by repeat (first | (with_reducible first | exact HB.out | apply below_alloc | apply pw_below_drewN | apply below_drew1 | refine below_set ?_ GE263.out) | exact HB.out)) hb); clear BK263; clear HB; have BK263 := n0_; have HB := n1_; clear n0_ n1_; (try clear hb); (try clear hb2); (try clear hk); (try clear hi); have hcz37_0 : w36.cell? ⟨gb263, 0, none⟩ = some (.int .u32 a0_0) := (blk_cell BK263.out 0).trans rfl; have hcz37_1 : w36.cell? ⟨gb263, 1, none⟩ = some (.int .u32 a0_1) := (blk_cell BK263.out 1).trans rfl; have hcz37_2 : w36.cell? ⟨gb263, 2, none⟩ = some (.int .u64 a0_2) := (blk_cell BK263.out 2).trans rfl; have hcz37_3 : w36.cell? ⟨gb263, 3, none⟩ = some (.int .u64 a0_3) := (blk_cell BK263.out 3).trans rfl; have hcz37_4 : w36.cell? ⟨gb263, 4, none⟩ = some (.int .u64 a0_4) := (blk_cell BK263.out 4).trans rfl; have hcz37_5 : w36.cell? ⟨gb263, 5, none⟩ = some (.int .u64 a0_5) := (blk_cell BK263.out 5).trans rfl; have hcz37_6 : w36.cell? ⟨gb263, 6, none⟩ = some (.int .u64 a0_6) := (blk_cell BK263.out 6).trans rfl; have hcz37_7 : w36.cell? ⟨gb263, 7, none⟩ = some (.int .u64 a0_7) := (blk_cell BK263.out 7).trans rfl; have hcz37_8 : w36.cell? ⟨gb263, 8, none⟩ = some (.int .u64 a0_8) := (blk_cell BK263.out 8).trans rfl; have hfz37_0 := blk_frozen BK263.out 0; have hfz37_1 := blk_frozen BK263.out 1; have hfz37_2 := blk_frozen BK263.out 2; have hfz37_3 := blk_frozen BK263.out 3; have hfz37_4 := blk_frozen BK263.out 4; have hfz37_5 := blk_frozen BK263.out 5; have hfz37_6 := blk_frozen BK263.out 6; have hfz37_7 := blk_frozen BK263.out 7; have hfz37_8 := blk_frozen BK263.out 8; have ps38 : 0 ≤ (a1 : Int) := of_decide_eq_true (by first | (with_reducible assumption) | assumption); have qs38 : (a1 : Int) < 6 := of_decide_eq_true (by first | (with_reducible assumption) | assumption); have hs38 := Mine.blk_at BK263.out 3 .u64 ([a0_3, a0_4, a0_5, a0_6, a0_7, a0_8] : List Int) rfl (a1) ps38 qs38; replace ps38 := eq_true ps38; replace qs38 := eq_true qs38) | ((with_reducible refine gate_callee (f := 14) rfl ?_); refine goesL_ (some 58) rfl rfl Try.func14 (by kernel_rfl) rfl #[.int .u64 (rd ([a0_3, a0_4, a0_5, a0_6, a0_7, a0_8] : List Int) a1)] rfl (by (try simp only [List.map_toArray, List.map_cons, List.map_nil]); first | done | rfl | (simp only [List.length_drop, List.length_take]; rfl)) ?_; (with_reducible refine (data_Halves.calls (rd ([a0_3, a0_4, a0_5, a0_6, a0_7, a0_8] : List Int) a1) t272 t273 _ A17.out).mono ?_); rintro e w' ⟨rfl, ⟨nd, rfl⟩⟩; refine ⟨_, rfl, ?_⟩; have ps39 : 0 ≤ (a1 : Int) := of_decide_eq_true (by first | (with_reducible assumption) | assumption); have qs39 : (a1 : Int) < 6 := of_decide_eq_true (by first | (with_reducible assumption) | assumption); have hs39 := Mine.blk_at BK263.out 3 .u64 ([a0_3, a0_4, a0_5, a0_6, a0_7, a0_8] : List Int) rfl (a1) ps39 qs39; replace ps39 := eq_true ps39; replace qs39 := eq_true qs39))
                            go_ret
                            exact ⟨by first | rfl | (simp [errW_none, errW_some] <;> rfl) | (simp [*, errW_none, errW_some] <;> rfl), by repeat (first | (with_reducible first | exact HB.out | apply below_alloc | apply pw_below_drewN | apply below_drew1 | refine below_set ?_ GE263.out) | exact HB.out)⟩
                        · rw [if_neg c24] at H
                          have c24b0 : ((Go.bits .or .u64 (IntKind.u64.wrap ((IntKind.u64.wrap (t273)) * 4294967296)) (IntKind.u64.wrap (t272))) == (rd ([a0_3, a0_4, a0_5, a0_6, a0_7, a0_8] : List Int) a1)) = false := beq_eq_false_iff_ne.mpr c24
                          have c24b1 : ((Go.bits .or .u64 (IntKind.u64.wrap ((IntKind.u64.wrap (t273)) * 4294967296)) (IntKind.u64.wrap (t272))) != (rd ([a0_3, a0_4, a0_5, a0_6, a0_7, a0_8] : List Int) a1)) = true := bne_iff_ne.mpr c24
                          obtain rfl := Option.some.inj H
                          have hcz40_0 : wc.cell? ⟨gb263, 0, none⟩ = some (.int .u32 a0_0) := (blk_cell BK263.out 0).trans rfl
                          have hcz40_1 : wc.cell? ⟨gb263, 1, none⟩ = some (.int .u32 a0_1) := (blk_cell BK263.out 1).trans rfl
                          have hcz40_2 : wc.cell? ⟨gb263, 2, none⟩ = some (.int .u64 a0_2) := (blk_cell BK263.out 2).trans rfl
                          have hcz40_3 : wc.cell? ⟨gb263, 3, none⟩ = some (.int .u64 a0_3) := (blk_cell BK263.out 3).trans rfl
                          have hcz40_4 : wc.cell? ⟨gb263, 4, none⟩ = some (.int .u64 a0_4) := (blk_cell BK263.out 4).trans rfl
                          have hcz40_5 : wc.cell? ⟨gb263, 5, none⟩ = some (.int .u64 a0_5) := (blk_cell BK263.out 5).trans rfl
                          have hcz40_6 : wc.cell? ⟨gb263, 6, none⟩ = some (.int .u64 a0_6) := (blk_cell BK263.out 6).trans rfl
                          have hcz40_7 : wc.cell? ⟨gb263, 7, none⟩ = some (.int .u64 a0_7) := (blk_cell BK263.out 7).trans rfl
                          have hcz40_8 : wc.cell? ⟨gb263, 8, none⟩ = some (.int .u64 a0_8) := (blk_cell BK263.out 8).trans rfl
                          have hfz40_0 := blk_frozen BK263.out 0
                          have hfz40_1 := blk_frozen BK263.out 1
                          have hfz40_2 := blk_frozen BK263.out 2
                          have hfz40_3 := blk_frozen BK263.out 3
                          have hfz40_4 := blk_frozen BK263.out 4
                          have hfz40_5 := blk_frozen BK263.out 5
                          have hfz40_6 := blk_frozen BK263.out 6
                          have hfz40_7 := blk_frozen BK263.out 7
                          have hfz40_8 := blk_frozen BK263.out 8
                          go_wp2_with (first | ((with_reducible refine gate_callee (f := 11) rfl ?_); refine goesL_ (some 44) rfl rfl Try.func11 (by kernel_rfl) rfl #[.agg #[.int .u32 a0_0, .int .u32 a0_1, .int .u64 a0_2, .int .u64 a0_3, .int .u64 a0_4, .int .u64 a0_5, .int .u64 a0_6, .int .u64 a0_7, .int .u64 a0_8], .int .u32 t265] rfl (by (try simp only [List.map_toArray, List.map_cons, List.map_nil]); first | done | rfl | (simp only [List.length_drop, List.length_take]; rfl)) ?_; (with_reducible refine (data_Load.calls kj4 a0_0 a0_1 a0_2 a0_3 a0_4 a0_5 a0_6 a0_7 a0_8 t265 t268 t269 _ A13.out).mono ?_); rintro e w41 ⟨rfl, hb⟩; refine ⟨_, rfl, ?_⟩; have n0_ := Aside0.mk (blk_below (g := gb263) (o := .cells #[.int .u32 a0_0, .int .u32 a0_1, .int .u64 a0_2, .int .u64 a0_3, .int .u64 a0_4, .int .u64 a0_5, .int .u64 a0_6, .int .u64 a0_7, .int .u64 a0_8] 26 (0, 0)) (by (with_reducible repeat (first | refine blk_drewN ?_ _ | refine blk_drew ?_ | refine blk_alloc ?_ _)); exact BK263.out) hb); have n1_ := Aside0.mk (below_step (by repeat (first | (with_reducible first | exact HB.out | apply below_alloc | apply pw_below_drewN | apply below_drew1 | refine below_set ?_ GE263.out) | exact HB.out)) hb); clear BK263; clear HB; have BK263 := n0_; have HB := n1_; clear n0_ n1_; (try clear hb); (try clear hb2); (try clear hk); (try clear hi); have hcz42_0 : w41.cell? ⟨gb263, 0, none⟩ = some (.int .u32 a0_0) := (blk_cell BK263.out 0).trans rfl; have hcz42_1 : w41.cell? ⟨gb263, 1, none⟩ = some (.int .u32 a0_1) := (blk_cell BK263.out 1).trans rfl; have hcz42_2 : w41.cell? ⟨gb263, 2, none⟩ = some (.int .u64 a0_2) := (blk_cell BK263.out 2).trans rfl; have hcz42_3 : w41.cell? ⟨gb263, 3, none⟩ = some (.int .u64 a0_3) := (blk_cell BK263.out 3).trans rfl; have hcz42_4 : w41.cell? ⟨gb263, 4, none⟩ = some (.int .u64 a0_4) := (blk_cell BK263.out 4).trans rfl; have hcz42_5 : w41.cell? ⟨gb263, 5, none⟩ = some (.int .u64 a0_5) := (blk_cell BK263.out 5).trans rfl; have hcz42_6 : w41.cell? ⟨gb263, 6, none⟩ = some (.int .u64 a0_6) := (blk_cell BK263.out 6).trans rfl; have hcz42_7 : w41.cell? ⟨gb263, 7, none⟩ = some (.int .u64 a0_7) := (blk_cell BK263.out 7).trans rfl; have hcz42_8 : w41.cell? ⟨gb263, 8, none⟩ = some (.int .u64 a0_8) := (blk_cell BK263.out 8).trans rfl; have hfz42_0 := blk_frozen BK263.out 0; have hfz42_1 := blk_frozen BK263.out 1; have hfz42_2 := blk_frozen BK263.out 2; have hfz42_3 := blk_frozen BK263.out 3; have hfz42_4 := blk_frozen BK263.out 4; have hfz42_5 := blk_frozen BK263.out 5; have hfz42_6 := blk_frozen BK263.out 6; have hfz42_7 := blk_frozen BK263.out 7; have hfz42_8 := blk_frozen BK263.out 8) | ((with_reducible refine gate_callee (f := 11) rfl ?_); refine goesL_ (some 50) rfl rfl Try.func11 (by kernel_rfl) rfl #[.agg #[.int .u32 a0_0, .int .u32 a0_1, .int .u64 a0_2, .int .u64 a0_3, .int .u64 a0_4, .int .u64 a0_5, .int .u64 a0_6, .int .u64 a0_7, .int .u64 a0_8], .int .u32 t266] rfl (by (try simp only [List.map_toArray, List.map_cons, List.map_nil]); first | done | rfl | (simp only [List.length_drop, List.length_take]; rfl)) ?_; (with_reducible refine (data_Load.calls kj4 a0_0 a0_1 a0_2 a0_3 a0_4 a0_5 a0_6 a0_7 a0_8 t266 t270 t271 _ A14.out).mono ?_); rintro e w43 ⟨rfl, hb⟩; refine ⟨_, rfl, ?_⟩; have n0_ := Aside0.mk (blk_below (g := gb263) (o := .cells #[.int .u32 a0_0, .int .u32 a0_1, .int .u64 a0_2, .int .u64 a0_3, .int .u64 a0_4, .int .u64 a0_5, .int .u64 a0_6, .int .u64 a0_7, .int .u64 a0_8] 26 (0, 0)) (by (with_reducible repeat (first | refine blk_drewN ?_ _ | refine blk_drew ?_ | refine blk_alloc ?_ _)); exact BK263.out) hb); have n1_ := Aside0.mk (below_step (by repeat (first | (with_reducible first | exact HB.out | apply below_alloc | apply pw_below_drewN | apply below_drew1 | refine below_set ?_ GE263.out) | exact HB.out)) hb); clear BK263; clear HB; have BK263 := n0_; have HB := n1_; clear n0_ n1_; (try clear hb); (try clear hb2); (try clear hk); (try clear hi); have hcz44_0 : w43.cell? ⟨gb263, 0, none⟩ = some (.int .u32 a0_0) := (blk_cell BK263.out 0).trans rfl; have hcz44_1 : w43.cell? ⟨gb263, 1, none⟩ = some (.int .u32 a0_1) := (blk_cell BK263.out 1).trans rfl; have hcz44_2 : w43.cell? ⟨gb263, 2, none⟩ = some (.int .u64 a0_2) := (blk_cell BK263.out 2).trans rfl; have hcz44_3 : w43.cell? ⟨gb263, 3, none⟩ = some (.int .u64 a0_3) := (blk_cell BK263.out 3).trans rfl; have hcz44_4 : w43.cell? ⟨gb263, 4, none⟩ = some (.int .u64 a0_4) := (blk_cell BK263.out 4).trans rfl; have hcz44_5 : w43.cell? ⟨gb263, 5, none⟩ = some (.int .u64 a0_5) := (blk_cell BK263.out 5).trans rfl; have hcz44_6 : w43.cell? ⟨gb263, 6, none⟩ = some (.int .u64 a0_6) := (blk_cell BK263.out 6).trans rfl; have hcz44_7 : w43.cell? ⟨gb263, 7, none⟩ = some (.int .u64 a0_7) := (blk_cell BK263.out 7).trans rfl; have hcz44_8 : w43.cell? ⟨gb263, 8, none⟩ = some (.int .u64 a0_8) := (blk_cell BK263.out 8).trans rfl; have hfz44_0 := blk_frozen BK263.out 0; have hfz44_1 := blk_frozen BK263.out 1; have hfz44_2 := blk_frozen BK263.out 2; have hfz44_3 := blk_frozen BK263.out 3; have hfz44_4 := blk_frozen BK263.out 4; have hfz44_5 := blk_frozen BK263.out 5; have hfz44_6 := blk_frozen BK263.out 6; have hfz44_7 := blk_frozen BK263.out 7; have hfz44_8 := blk_frozen BK263.out 8; have ps45 : 0 ≤ (a1 : Int) := of_decide_eq_true (by first | (with_reducible assumption) | assumption); have qs45 : (a1 : Int) < 6 := of_decide_eq_true (by first | (with_reducible assumption) | assumption); have hs45 := Mine.blk_at BK263.out 3 .u64 ([a0_3, a0_4, a0_5, a0_6, a0_7, a0_8] : List Int) rfl (a1) ps45 qs45; replace ps45 := eq_true ps45; replace qs45 := eq_true qs45) | ((with_reducible refine gate_callee (f := 14) rfl ?_); refine goesL_ (some 58) rfl rfl Try.func14 (by kernel_rfl) rfl #[.int .u64 (rd ([a0_3, a0_4, a0_5, a0_6, a0_7, a0_8] : List Int) a1)] rfl (by (try simp only [List.map_toArray, List.map_cons, List.map_nil]); first | done | rfl | (simp only [List.length_drop, List.length_take]; rfl)) ?_; (with_reducible refine (data_Halves.calls (rd ([a0_3, a0_4, a0_5, a0_6, a0_7, a0_8] : List Int) a1) t272 t273 _ A17.out).mono ?_); rintro e w' ⟨rfl, ⟨nd, rfl⟩⟩; refine ⟨_, rfl, ?_⟩; have ps46 : 0 ≤ (a1 : Int) := of_decide_eq_true (by first | (with_reducible assumption) | assumption); have qs46 : (a1 : Int) < 6 := of_decide_eq_true (by first | (with_reducible assumption) | assumption); have hs46 := Mine.blk_at BK263.out 3 .u64 ([a0_3, a0_4, a0_5, a0_6, a0_7, a0_8] : List Int) rfl (a1) ps46 qs46; replace ps46 := eq_true ps46; replace qs46 := eq_true qs46))
                          go_ret
                          exact ⟨by first | rfl | (simp [errW_none, errW_some] <;> rfl) | (simp [*, errW_none, errW_some] <;> rfl), by repeat (first | (with_reducible first | exact HB.out | apply below_alloc | apply pw_below_drewN | apply below_drew1 | refine below_set ?_ GE263.out) | exact HB.out)⟩
                      · rw [if_neg c23] at H
                        have c23b0 : (t270 == t273) = false := beq_eq_false_iff_ne.mpr c23
                        have c23b1 : (t270 != t273) = true := bne_iff_ne.mpr c23
                        obtain rfl := Option.some.inj H
                        have hcz47_0 : wc.cell? ⟨gb263, 0, none⟩ = some (.int .u32 a0_0) := (blk_cell BK263.out 0).trans rfl
                        have hcz47_1 : wc.cell? ⟨gb263, 1, none⟩ = some (.int .u32 a0_1) := (blk_cell BK263.out 1).trans rfl
                        have hcz47_2 : wc.cell? ⟨gb263, 2, none⟩ = some (.int .u64 a0_2) := (blk_cell BK263.out 2).trans rfl
                        have hcz47_3 : wc.cell? ⟨gb263, 3, none⟩ = some (.int .u64 a0_3) := (blk_cell BK263.out 3).trans rfl
                        have hcz47_4 : wc.cell? ⟨gb263, 4, none⟩ = some (.int .u64 a0_4) := (blk_cell BK263.out 4).trans rfl
                        have hcz47_5 : wc.cell? ⟨gb263, 5, none⟩ = some (.int .u64 a0_5) := (blk_cell BK263.out 5).trans rfl
                        have hcz47_6 : wc.cell? ⟨gb263, 6, none⟩ = some (.int .u64 a0_6) := (blk_cell BK263.out 6).trans rfl
                        have hcz47_7 : wc.cell? ⟨gb263, 7, none⟩ = some (.int .u64 a0_7) := (blk_cell BK263.out 7).trans rfl
                        have hcz47_8 : wc.cell? ⟨gb263, 8, none⟩ = some (.int .u64 a0_8) := (blk_cell BK263.out 8).trans rfl
                        have hfz47_0 := blk_frozen BK263.out 0
                        have hfz47_1 := blk_frozen BK263.out 1
                        have hfz47_2 := blk_frozen BK263.out 2
                        have hfz47_3 := blk_frozen BK263.out 3
                        have hfz47_4 := blk_frozen BK263.out 4
                        have hfz47_5 := blk_frozen BK263.out 5
                        have hfz47_6 := blk_frozen BK263.out 6
                        have hfz47_7 := blk_frozen BK263.out 7
                        have hfz47_8 := blk_frozen BK263.out 8
                        go_wp2_with (first | ((with_reducible refine gate_callee (f := 11) rfl ?_); refine goesL_ (some 44) rfl rfl Try.func11 (by kernel_rfl) rfl #[.agg #[.int .u32 a0_0, .int .u32 a0_1, .int .u64 a0_2, .int .u64 a0_3, .int .u64 a0_4, .int .u64 a0_5, .int .u64 a0_6, .int .u64 a0_7, .int .u64 a0_8], .int .u32 t265] rfl (by (try simp only [List.map_toArray, List.map_cons, List.map_nil]); first | done | rfl | (simp only [List.length_drop, List.length_take]; rfl)) ?_; (with_reducible refine (data_Load.calls kj4 a0_0 a0_1 a0_2 a0_3 a0_4 a0_5 a0_6 a0_7 a0_8 t265 t268 t269 _ A13.out).mono ?_); rintro e w48 ⟨rfl, hb⟩; refine ⟨_, rfl, ?_⟩; have n0_ := Aside0.mk (blk_below (g := gb263) (o := .cells #[.int .u32 a0_0, .int .u32 a0_1, .int .u64 a0_2, .int .u64 a0_3, .int .u64 a0_4, .int .u64 a0_5, .int .u64 a0_6, .int .u64 a0_7, .int .u64 a0_8] 26 (0, 0)) (by (with_reducible repeat (first | refine blk_drewN ?_ _ | refine blk_drew ?_ | refine blk_alloc ?_ _)); exact BK263.out) hb); have n1_ := Aside0.mk (below_step (by repeat (first | (with_reducible first | exact HB.out | apply below_alloc | apply pw_below_drewN | apply below_drew1 | refine below_set ?_ GE263.out) | exact HB.out)) hb); clear BK263; clear HB; have BK263 := n0_; have HB := n1_; clear n0_ n1_; (try clear hb); (try clear hb2); (try clear hk); (try clear hi); have hcz49_0 : w48.cell? ⟨gb263, 0, none⟩ = some (.int .u32 a0_0) := (blk_cell BK263.out 0).trans rfl; have hcz49_1 : w48.cell? ⟨gb263, 1, none⟩ = some (.int .u32 a0_1) := (blk_cell BK263.out 1).trans rfl; have hcz49_2 : w48.cell? ⟨gb263, 2, none⟩ = some (.int .u64 a0_2) := (blk_cell BK263.out 2).trans rfl; have hcz49_3 : w48.cell? ⟨gb263, 3, none⟩ = some (.int .u64 a0_3) := (blk_cell BK263.out 3).trans rfl; have hcz49_4 : w48.cell? ⟨gb263, 4, none⟩ = some (.int .u64 a0_4) := (blk_cell BK263.out 4).trans rfl; have hcz49_5 : w48.cell? ⟨gb263, 5, none⟩ = some (.int .u64 a0_5) := (blk_cell BK263.out 5).trans rfl; have hcz49_6 : w48.cell? ⟨gb263, 6, none⟩ = some (.int .u64 a0_6) := (blk_cell BK263.out 6).trans rfl; have hcz49_7 : w48.cell? ⟨gb263, 7, none⟩ = some (.int .u64 a0_7) := (blk_cell BK263.out 7).trans rfl; have hcz49_8 : w48.cell? ⟨gb263, 8, none⟩ = some (.int .u64 a0_8) := (blk_cell BK263.out 8).trans rfl; have hfz49_0 := blk_frozen BK263.out 0; have hfz49_1 := blk_frozen BK263.out 1; have hfz49_2 := blk_frozen BK263.out 2; have hfz49_3 := blk_frozen BK263.out 3; have hfz49_4 := blk_frozen BK263.out 4; have hfz49_5 := blk_frozen BK263.out 5; have hfz49_6 := blk_frozen BK263.out 6; have hfz49_7 := blk_frozen BK263.out 7; have hfz49_8 := blk_frozen BK263.out 8) | ((with_reducible refine gate_callee (f := 11) rfl ?_); refine goesL_ (some 50) rfl rfl Try.func11 (by kernel_rfl) rfl #[.agg #[.int .u32 a0_0, .int .u32 a0_1, .int .u64 a0_2, .int .u64 a0_3, .int .u64 a0_4, .int .u64 a0_5, .int .u64 a0_6, .int .u64 a0_7, .int .u64 a0_8], .int .u32 t266] rfl (by (try simp only [List.map_toArray, List.map_cons, List.map_nil]); first | done | rfl | (simp only [List.length_drop, List.length_take]; rfl)) ?_; (with_reducible refine (data_Load.calls kj4 a0_0 a0_1 a0_2 a0_3 a0_4 a0_5 a0_6 a0_7 a0_8 t266 t270 t271 _ A14.out).mono ?_); rintro e w50 ⟨rfl, hb⟩; refine ⟨_, rfl, ?_⟩; have n0_ := Aside0.mk (blk_below (g := gb263) (o := .cells #[.int .u32 a0_0, .int .u32 a0_1, .int .u64 a0_2, .int .u64 a0_3, .int .u64 a0_4, .int .u64 a0_5, .int .u64 a0_6, .int .u64 a0_7, .int .u64 a0_8] 26 (0, 0)) (by (with_reducible repeat (first | refine blk_drewN ?_ _ | refine blk_drew ?_ | refine blk_alloc ?_ _)); exact BK263.out) hb); have n1_ := Aside0.mk (below_step (by repeat (first | (with_reducible first | exact HB.out | apply below_alloc | apply pw_below_drewN | apply below_drew1 | refine below_set ?_ GE263.out) | exact HB.out)) hb); clear BK263; clear HB; have BK263 := n0_; have HB := n1_; clear n0_ n1_; (try clear hb); (try clear hb2); (try clear hk); (try clear hi); have hcz51_0 : w50.cell? ⟨gb263, 0, none⟩ = some (.int .u32 a0_0) := (blk_cell BK263.out 0).trans rfl; have hcz51_1 : w50.cell? ⟨gb263, 1, none⟩ = some (.int .u32 a0_1) := (blk_cell BK263.out 1).trans rfl; have hcz51_2 : w50.cell? ⟨gb263, 2, none⟩ = some (.int .u64 a0_2) := (blk_cell BK263.out 2).trans rfl; have hcz51_3 : w50.cell? ⟨gb263, 3, none⟩ = some (.int .u64 a0_3) := (blk_cell BK263.out 3).trans rfl; have hcz51_4 : w50.cell? ⟨gb263, 4, none⟩ = some (.int .u64 a0_4) := (blk_cell BK263.out 4).trans rfl; have hcz51_5 : w50.cell? ⟨gb263, 5, none⟩ = some (.int .u64 a0_5) := (blk_cell BK263.out 5).trans rfl; have hcz51_6 : w50.cell? ⟨gb263, 6, none⟩ = some (.int .u64 a0_6) := (blk_cell BK263.out 6).trans rfl; have hcz51_7 : w50.cell? ⟨gb263, 7, none⟩ = some (.int .u64 a0_7) := (blk_cell BK263.out 7).trans rfl; have hcz51_8 : w50.cell? ⟨gb263, 8, none⟩ = some (.int .u64 a0_8) := (blk_cell BK263.out 8).trans rfl; have hfz51_0 := blk_frozen BK263.out 0; have hfz51_1 := blk_frozen BK263.out 1; have hfz51_2 := blk_frozen BK263.out 2; have hfz51_3 := blk_frozen BK263.out 3; have hfz51_4 := blk_frozen BK263.out 4; have hfz51_5 := blk_frozen BK263.out 5; have hfz51_6 := blk_frozen BK263.out 6; have hfz51_7 := blk_frozen BK263.out 7; have hfz51_8 := blk_frozen BK263.out 8; have ps52 : 0 ≤ (a1 : Int) := of_decide_eq_true (by first | (with_reducible assumption) | assumption); have qs52 : (a1 : Int) < 6 := of_decide_eq_true (by first | (with_reducible assumption) | assumption); have hs52 := Mine.blk_at BK263.out 3 .u64 ([a0_3, a0_4, a0_5, a0_6, a0_7, a0_8] : List Int) rfl (a1) ps52 qs52; replace ps52 := eq_true ps52; replace qs52 := eq_true qs52) | ((with_reducible refine gate_callee (f := 14) rfl ?_); refine goesL_ (some 58) rfl rfl Try.func14 (by kernel_rfl) rfl #[.int .u64 (rd ([a0_3, a0_4, a0_5, a0_6, a0_7, a0_8] : List Int) a1)] rfl (by (try simp only [List.map_toArray, List.map_cons, List.map_nil]); first | done | rfl | (simp only [List.length_drop, List.length_take]; rfl)) ?_; (with_reducible refine (data_Halves.calls (rd ([a0_3, a0_4, a0_5, a0_6, a0_7, a0_8] : List Int) a1) t272 t273 _ A17.out).mono ?_); rintro e w' ⟨rfl, ⟨nd, rfl⟩⟩; refine ⟨_, rfl, ?_⟩))
                        go_ret
                        exact ⟨by first | rfl | (simp [errW_none, errW_some] <;> rfl) | (simp [*, errW_none, errW_some] <;> rfl), by repeat (first | (with_reducible first | exact HB.out | apply below_alloc | apply pw_below_drewN | apply below_drew1 | refine below_set ?_ GE263.out) | exact HB.out)⟩
                    · rw [if_neg c22] at H
                      have c22b0 : (t268 == t272) = false := beq_eq_false_iff_ne.mpr c22
                      have c22b1 : (t268 != t272) = true := bne_iff_ne.mpr c22
                      obtain rfl := Option.some.inj H
                      have hcz53_0 : wc.cell? ⟨gb263, 0, none⟩ = some (.int .u32 a0_0) := (blk_cell BK263.out 0).trans rfl
                      have hcz53_1 : wc.cell? ⟨gb263, 1, none⟩ = some (.int .u32 a0_1) := (blk_cell BK263.out 1).trans rfl
                      have hcz53_2 : wc.cell? ⟨gb263, 2, none⟩ = some (.int .u64 a0_2) := (blk_cell BK263.out 2).trans rfl
                      have hcz53_3 : wc.cell? ⟨gb263, 3, none⟩ = some (.int .u64 a0_3) := (blk_cell BK263.out 3).trans rfl
                      have hcz53_4 : wc.cell? ⟨gb263, 4, none⟩ = some (.int .u64 a0_4) := (blk_cell BK263.out 4).trans rfl
                      have hcz53_5 : wc.cell? ⟨gb263, 5, none⟩ = some (.int .u64 a0_5) := (blk_cell BK263.out 5).trans rfl
                      have hcz53_6 : wc.cell? ⟨gb263, 6, none⟩ = some (.int .u64 a0_6) := (blk_cell BK263.out 6).trans rfl
                      have hcz53_7 : wc.cell? ⟨gb263, 7, none⟩ = some (.int .u64 a0_7) := (blk_cell BK263.out 7).trans rfl
                      have hcz53_8 : wc.cell? ⟨gb263, 8, none⟩ = some (.int .u64 a0_8) := (blk_cell BK263.out 8).trans rfl
                      have hfz53_0 := blk_frozen BK263.out 0
                      have hfz53_1 := blk_frozen BK263.out 1
                      have hfz53_2 := blk_frozen BK263.out 2
                      have hfz53_3 := blk_frozen BK263.out 3
                      have hfz53_4 := blk_frozen BK263.out 4
                      have hfz53_5 := blk_frozen BK263.out 5
                      have hfz53_6 := blk_frozen BK263.out 6
                      have hfz53_7 := blk_frozen BK263.out 7
                      have hfz53_8 := blk_frozen BK263.out 8
                      go_wp2_with (first | ((with_reducible refine gate_callee (f := 11) rfl ?_); refine goesL_ (some 44) rfl rfl Try.func11 (by kernel_rfl) rfl #[.agg #[.int .u32 a0_0, .int .u32 a0_1, .int .u64 a0_2, .int .u64 a0_3, .int .u64 a0_4, .int .u64 a0_5, .int .u64 a0_6, .int .u64 a0_7, .int .u64 a0_8], .int .u32 t265] rfl (by (try simp only [List.map_toArray, List.map_cons, List.map_nil]); first | done | rfl | (simp only [List.length_drop, List.length_take]; rfl)) ?_; (with_reducible refine (data_Load.calls kj4 a0_0 a0_1 a0_2 a0_3 a0_4 a0_5 a0_6 a0_7 a0_8 t265 t268 t269 _ A13.out).mono ?_); rintro e w54 ⟨rfl, hb⟩; refine ⟨_, rfl, ?_⟩; have n0_ := Aside0.mk (blk_below (g := gb263) (o := .cells #[.int .u32 a0_0, .int .u32 a0_1, .int .u64 a0_2, .int .u64 a0_3, .int .u64 a0_4, .int .u64 a0_5, .int .u64 a0_6, .int .u64 a0_7, .int .u64 a0_8] 26 (0, 0)) (by (with_reducible repeat (first | refine blk_drewN ?_ _ | refine blk_drew ?_ | refine blk_alloc ?_ _)); exact BK263.out) hb); have n1_ := Aside0.mk (below_step (by repeat (first | (with_reducible first | exact HB.out | apply below_alloc | apply pw_below_drewN | apply below_drew1 | refine below_set ?_ GE263.out) | exact HB.out)) hb); clear BK263; clear HB; have BK263 := n0_; have HB := n1_; clear n0_ n1_; (try clear hb); (try clear hb2); (try clear hk); (try clear hi); have hcz55_0 : w54.cell? ⟨gb263, 0, none⟩ = some (.int .u32 a0_0) := (blk_cell BK263.out 0).trans rfl; have hcz55_1 : w54.cell? ⟨gb263, 1, none⟩ = some (.int .u32 a0_1) := (blk_cell BK263.out 1).trans rfl; have hcz55_2 : w54.cell? ⟨gb263, 2, none⟩ = some (.int .u64 a0_2) := (blk_cell BK263.out 2).trans rfl; have hcz55_3 : w54.cell? ⟨gb263, 3, none⟩ = some (.int .u64 a0_3) := (blk_cell BK263.out 3).trans rfl; have hcz55_4 : w54.cell? ⟨gb263, 4, none⟩ = some (.int .u64 a0_4) := (blk_cell BK263.out 4).trans rfl; have hcz55_5 : w54.cell? ⟨gb263, 5, none⟩ = some (.int .u64 a0_5) := (blk_cell BK263.out 5).trans rfl; have hcz55_6 : w54.cell? ⟨gb263, 6, none⟩ = some (.int .u64 a0_6) := (blk_cell BK263.out 6).trans rfl; have hcz55_7 : w54.cell? ⟨gb263, 7, none⟩ = some (.int .u64 a0_7) := (blk_cell BK263.out 7).trans rfl; have hcz55_8 : w54.cell? ⟨gb263, 8, none⟩ = some (.int .u64 a0_8) := (blk_cell BK263.out 8).trans rfl; have hfz55_0 := blk_frozen BK263.out 0; have hfz55_1 := blk_frozen BK263.out 1; have hfz55_2 := blk_frozen BK263.out 2; have hfz55_3 := blk_frozen BK263.out 3; have hfz55_4 := blk_frozen BK263.out 4; have hfz55_5 := blk_frozen BK263.out 5; have hfz55_6 := blk_frozen BK263.out 6; have hfz55_7 := blk_frozen BK263.out 7; have hfz55_8 := blk_frozen BK263.out 8) | ((with_reducible refine gate_callee (f := 11) rfl ?_); refine goesL_ (some 50) rfl rfl Try.func11 (by kernel_rfl) rfl #[.agg #[.int .u32 a0_0, .int .u32 a0_1, .int .u64 a0_2, .int .u64 a0_3, .int .u64 a0_4, .int .u64 a0_5, .int .u64 a0_6, .int .u64 a0_7, .int .u64 a0_8], .int .u32 t266] rfl (by (try simp only [List.map_toArray, List.map_cons, List.map_nil]); first | done | rfl | (simp only [List.length_drop, List.length_take]; rfl)) ?_; (with_reducible refine (data_Load.calls kj4 a0_0 a0_1 a0_2 a0_3 a0_4 a0_5 a0_6 a0_7 a0_8 t266 t270 t271 _ A14.out).mono ?_); rintro e w56 ⟨rfl, hb⟩; refine ⟨_, rfl, ?_⟩; have n0_ := Aside0.mk (blk_below (g := gb263) (o := .cells #[.int .u32 a0_0, .int .u32 a0_1, .int .u64 a0_2, .int .u64 a0_3, .int .u64 a0_4, .int .u64 a0_5, .int .u64 a0_6, .int .u64 a0_7, .int .u64 a0_8] 26 (0, 0)) (by (with_reducible repeat (first | refine blk_drewN ?_ _ | refine blk_drew ?_ | refine blk_alloc ?_ _)); exact BK263.out) hb); have n1_ := Aside0.mk (below_step (by repeat (first | (with_reducible first | exact HB.out | apply below_alloc | apply pw_below_drewN | apply below_drew1 | refine below_set ?_ GE263.out) | exact HB.out)) hb); clear BK263; clear HB; have BK263 := n0_; have HB := n1_; clear n0_ n1_; (try clear hb); (try clear hb2); (try clear hk); (try clear hi); have hcz57_0 : w56.cell? ⟨gb263, 0, none⟩ = some (.int .u32 a0_0) := (blk_cell BK263.out 0).trans rfl; have hcz57_1 : w56.cell? ⟨gb263, 1, none⟩ = some (.int .u32 a0_1) := (blk_cell BK263.out 1).trans rfl; have hcz57_2 : w56.cell? ⟨gb263, 2, none⟩ = some (.int .u64 a0_2) := (blk_cell BK263.out 2).trans rfl; have hcz57_3 : w56.cell? ⟨gb263, 3, none⟩ = some (.int .u64 a0_3) := (blk_cell BK263.out 3).trans rfl; have hcz57_4 : w56.cell? ⟨gb263, 4, none⟩ = some (.int .u64 a0_4) := (blk_cell BK263.out 4).trans rfl; have hcz57_5 : w56.cell? ⟨gb263, 5, none⟩ = some (.int .u64 a0_5) := (blk_cell BK263.out 5).trans rfl; have hcz57_6 : w56.cell? ⟨gb263, 6, none⟩ = some (.int .u64 a0_6) := (blk_cell BK263.out 6).trans rfl; have hcz57_7 : w56.cell? ⟨gb263, 7, none⟩ = some (.int .u64 a0_7) := (blk_cell BK263.out 7).trans rfl; have hcz57_8 : w56.cell? ⟨gb263, 8, none⟩ = some (.int .u64 a0_8) := (blk_cell BK263.out 8).trans rfl; have hfz57_0 := blk_frozen BK263.out 0; have hfz57_1 := blk_frozen BK263.out 1; have hfz57_2 := blk_frozen BK263.out 2; have hfz57_3 := blk_frozen BK263.out 3; have hfz57_4 := blk_frozen BK263.out 4; have hfz57_5 := blk_frozen BK263.out 5; have hfz57_6 := blk_frozen BK263.out 6; have hfz57_7 := blk_frozen BK263.out 7; have hfz57_8 := blk_frozen BK263.out 8; have ps58 : 0 ≤ (a1 : Int) := of_decide_eq_true (by first | (with_reducible assumption) | assumption); have qs58 : (a1 : Int) < 6 := of_decide_eq_true (by first | (with_reducible assumption) | assumption); have hs58 := Mine.blk_at BK263.out 3 .u64 ([a0_3, a0_4, a0_5, a0_6, a0_7, a0_8] : List Int) rfl (a1) ps58 qs58; replace ps58 := eq_true ps58; replace qs58 := eq_true qs58) | ((with_reducible refine gate_callee (f := 14) rfl ?_); refine goesL_ (some 58) rfl rfl Try.func14 (by kernel_rfl) rfl #[.int .u64 (rd ([a0_3, a0_4, a0_5, a0_6, a0_7, a0_8] : List Int) a1)] rfl (by (try simp only [List.map_toArray, List.map_cons, List.map_nil]); first | done | rfl | (simp only [List.length_drop, List.length_take]; rfl)) ?_; (with_reducible refine (data_Halves.calls (rd ([a0_3, a0_4, a0_5, a0_6, a0_7, a0_8] : List Int) a1) t272 t273 _ A17.out).mono ?_); rintro e w' ⟨rfl, ⟨nd, rfl⟩⟩; refine ⟨_, rfl, ?_⟩))
                      go_ret
                      exact ⟨by first | rfl | (simp [errW_none, errW_some] <;> rfl) | (simp [*, errW_none, errW_some] <;> rfl), by repeat (first | (with_reducible first | exact HB.out | apply below_alloc | apply pw_below_drewN | apply below_drew1 | refine below_set ?_ GE263.out) | exact HB.out)⟩
                  · rw [if_neg c21] at H
                    have c21b0 : (t271 == 0) = false := beq_eq_false_iff_ne.mpr c21
                    have c21b1 : (t271 != 0) = true := bne_iff_ne.mpr c21
                    obtain rfl := Option.some.inj H
                    have hcz59_0 : wc.cell? ⟨gb263, 0, none⟩ = some (.int .u32 a0_0) := (blk_cell BK263.out 0).trans rfl
                    have hcz59_1 : wc.cell? ⟨gb263, 1, none⟩ = some (.int .u32 a0_1) := (blk_cell BK263.out 1).trans rfl
                    have hcz59_2 : wc.cell? ⟨gb263, 2, none⟩ = some (.int .u64 a0_2) := (blk_cell BK263.out 2).trans rfl
                    have hcz59_3 : wc.cell? ⟨gb263, 3, none⟩ = some (.int .u64 a0_3) := (blk_cell BK263.out 3).trans rfl
                    have hcz59_4 : wc.cell? ⟨gb263, 4, none⟩ = some (.int .u64 a0_4) := (blk_cell BK263.out 4).trans rfl
                    have hcz59_5 : wc.cell? ⟨gb263, 5, none⟩ = some (.int .u64 a0_5) := (blk_cell BK263.out 5).trans rfl
                    have hcz59_6 : wc.cell? ⟨gb263, 6, none⟩ = some (.int .u64 a0_6) := (blk_cell BK263.out 6).trans rfl
                    have hcz59_7 : wc.cell? ⟨gb263, 7, none⟩ = some (.int .u64 a0_7) := (blk_cell BK263.out 7).trans rfl
                    have hcz59_8 : wc.cell? ⟨gb263, 8, none⟩ = some (.int .u64 a0_8) := (blk_cell BK263.out 8).trans rfl
                    have hfz59_0 := blk_frozen BK263.out 0
                    have hfz59_1 := blk_frozen BK263.out 1
                    have hfz59_2 := blk_frozen BK263.out 2
                    have hfz59_3 := blk_frozen BK263.out 3
                    have hfz59_4 := blk_frozen BK263.out 4
                    have hfz59_5 := blk_frozen BK263.out 5
                    have hfz59_6 := blk_frozen BK263.out 6
                    have hfz59_7 := blk_frozen BK263.out 7
                    have hfz59_8 := blk_frozen BK263.out 8
                    go_wp2_with (first | ((with_reducible refine gate_callee (f := 11) rfl ?_); refine goesL_ (some 44) rfl rfl Try.func11 (by kernel_rfl) rfl #[.agg #[.int .u32 a0_0, .int .u32 a0_1, .int .u64 a0_2, .int .u64 a0_3, .int .u64 a0_4, .int .u64 a0_5, .int .u64 a0_6, .int .u64 a0_7, .int .u64 a0_8], .int .u32 t265] rfl (by (try simp only [List.map_toArray, List.map_cons, List.map_nil]); first | done | rfl | (simp only [List.length_drop, List.length_take]; rfl)) ?_; (with_reducible refine (data_Load.calls kj4 a0_0 a0_1 a0_2 a0_3 a0_4 a0_5 a0_6 a0_7 a0_8 t265 t268 t269 _ A13.out).mono ?_); rintro e w60 ⟨rfl, hb⟩; refine ⟨_, rfl, ?_⟩; have n0_ := Aside0.mk (blk_below (g := gb263) (o := .cells #[.int .u32 a0_0, .int .u32 a0_1, .int .u64 a0_2, .int .u64 a0_3, .int .u64 a0_4, .int .u64 a0_5, .int .u64 a0_6, .int .u64 a0_7, .int .u64 a0_8] 26 (0, 0)) (by (with_reducible repeat (first | refine blk_drewN ?_ _ | refine blk_drew ?_ | refine blk_alloc ?_ _)); exact BK263.out) hb); have n1_ := Aside0.mk (below_step (by repeat (first | (with_reducible first | exact HB.out | apply below_alloc | apply pw_below_drewN | apply below_drew1 | refine below_set ?_ GE263.out) | exact HB.out)) hb); clear BK263; clear HB; have BK263 := n0_; have HB := n1_; clear n0_ n1_; (try clear hb); (try clear hb2); (try clear hk); (try clear hi); have hcz61_0 : w60.cell? ⟨gb263, 0, none⟩ = some (.int .u32 a0_0) := (blk_cell BK263.out 0).trans rfl; have hcz61_1 : w60.cell? ⟨gb263, 1, none⟩ = some (.int .u32 a0_1) := (blk_cell BK263.out 1).trans rfl; have hcz61_2 : w60.cell? ⟨gb263, 2, none⟩ = some (.int .u64 a0_2) := (blk_cell BK263.out 2).trans rfl; have hcz61_3 : w60.cell? ⟨gb263, 3, none⟩ = some (.int .u64 a0_3) := (blk_cell BK263.out 3).trans rfl; have hcz61_4 : w60.cell? ⟨gb263, 4, none⟩ = some (.int .u64 a0_4) := (blk_cell BK263.out 4).trans rfl; have hcz61_5 : w60.cell? ⟨gb263, 5, none⟩ = some (.int .u64 a0_5) := (blk_cell BK263.out 5).trans rfl; have hcz61_6 : w60.cell? ⟨gb263, 6, none⟩ = some (.int .u64 a0_6) := (blk_cell BK263.out 6).trans rfl; have hcz61_7 : w60.cell? ⟨gb263, 7, none⟩ = some (.int .u64 a0_7) := (blk_cell BK263.out 7).trans rfl; have hcz61_8 : w60.cell? ⟨gb263, 8, none⟩ = some (.int .u64 a0_8) := (blk_cell BK263.out 8).trans rfl; have hfz61_0 := blk_frozen BK263.out 0; have hfz61_1 := blk_frozen BK263.out 1; have hfz61_2 := blk_frozen BK263.out 2; have hfz61_3 := blk_frozen BK263.out 3; have hfz61_4 := blk_frozen BK263.out 4; have hfz61_5 := blk_frozen BK263.out 5; have hfz61_6 := blk_frozen BK263.out 6; have hfz61_7 := blk_frozen BK263.out 7; have hfz61_8 := blk_frozen BK263.out 8) | ((with_reducible refine gate_callee (f := 11) rfl ?_); refine goesL_ (some 50) rfl rfl Try.func11 (by kernel_rfl) rfl #[.agg #[.int .u32 a0_0, .int .u32 a0_1, .int .u64 a0_2, .int .u64 a0_3, .int .u64 a0_4, .int .u64 a0_5, .int .u64 a0_6, .int .u64 a0_7, .int .u64 a0_8], .int .u32 t266] rfl (by (try simp only [List.map_toArray, List.map_cons, List.map_nil]); first | done | rfl | (simp only [List.length_drop, List.length_take]; rfl)) ?_; (with_reducible refine (data_Load.calls kj4 a0_0 a0_1 a0_2 a0_3 a0_4 a0_5 a0_6 a0_7 a0_8 t266 t270 t271 _ A14.out).mono ?_); rintro e w62 ⟨rfl, hb⟩; refine ⟨_, rfl, ?_⟩; have n0_ := Aside0.mk (blk_below (g := gb263) (o := .cells #[.int .u32 a0_0, .int .u32 a0_1, .int .u64 a0_2, .int .u64 a0_3, .int .u64 a0_4, .int .u64 a0_5, .int .u64 a0_6, .int .u64 a0_7, .int .u64 a0_8] 26 (0, 0)) (by (with_reducible repeat (first | refine blk_drewN ?_ _ | refine blk_drew ?_ | refine blk_alloc ?_ _)); exact BK263.out) hb); have n1_ := Aside0.mk (below_step (by repeat (first | (with_reducible first | exact HB.out | apply below_alloc | apply pw_below_drewN | apply below_drew1 | refine below_set ?_ GE263.out) | exact HB.out)) hb); clear BK263; clear HB; have BK263 := n0_; have HB := n1_; clear n0_ n1_; (try clear hb); (try clear hb2); (try clear hk); (try clear hi); have hcz63_0 : w62.cell? ⟨gb263, 0, none⟩ = some (.int .u32 a0_0) := (blk_cell BK263.out 0).trans rfl; have hcz63_1 : w62.cell? ⟨gb263, 1, none⟩ = some (.int .u32 a0_1) := (blk_cell BK263.out 1).trans rfl; have hcz63_2 : w62.cell? ⟨gb263, 2, none⟩ = some (.int .u64 a0_2) := (blk_cell BK263.out 2).trans rfl; have hcz63_3 : w62.cell? ⟨gb263, 3, none⟩ = some (.int .u64 a0_3) := (blk_cell BK263.out 3).trans rfl; have hcz63_4 : w62.cell? ⟨gb263, 4, none⟩ = some (.int .u64 a0_4) := (blk_cell BK263.out 4).trans rfl; have hcz63_5 : w62.cell? ⟨gb263, 5, none⟩ = some (.int .u64 a0_5) := (blk_cell BK263.out 5).trans rfl; have hcz63_6 : w62.cell? ⟨gb263, 6, none⟩ = some (.int .u64 a0_6) := (blk_cell BK263.out 6).trans rfl; have hcz63_7 : w62.cell? ⟨gb263, 7, none⟩ = some (.int .u64 a0_7) := (blk_cell BK263.out 7).trans rfl; have hcz63_8 : w62.cell? ⟨gb263, 8, none⟩ = some (.int .u64 a0_8) := (blk_cell BK263.out 8).trans rfl; have hfz63_0 := blk_frozen BK263.out 0; have hfz63_1 := blk_frozen BK263.out 1; have hfz63_2 := blk_frozen BK263.out 2; have hfz63_3 := blk_frozen BK263.out 3; have hfz63_4 := blk_frozen BK263.out 4; have hfz63_5 := blk_frozen BK263.out 5; have hfz63_6 := blk_frozen BK263.out 6; have hfz63_7 := blk_frozen BK263.out 7; have hfz63_8 := blk_frozen BK263.out 8; have ps64 : 0 ≤ (a1 : Int) := of_decide_eq_true (by first | (with_reducible assumption) | assumption); have qs64 : (a1 : Int) < 6 := of_decide_eq_true (by first | (with_reducible assumption) | assumption); have hs64 := Mine.blk_at BK263.out 3 .u64 ([a0_3, a0_4, a0_5, a0_6, a0_7, a0_8] : List Int) rfl (a1) ps64 qs64; replace ps64 := eq_true ps64; replace qs64 := eq_true qs64) | ((with_reducible refine gate_callee (f := 14) rfl ?_); refine goesL_ (some 58) rfl rfl Try.func14 (by kernel_rfl) rfl #[.int .u64 (rd ([a0_3, a0_4, a0_5, a0_6, a0_7, a0_8] : List Int) a1)] rfl (by (try simp only [List.map_toArray, List.map_cons, List.map_nil]); first | done | rfl | (simp only [List.length_drop, List.length_take]; rfl)) ?_; (with_reducible refine (data_Halves.calls (rd ([a0_3, a0_4, a0_5, a0_6, a0_7, a0_8] : List Int) a1) t272 t273 _ A17.out).mono ?_); rintro e w' ⟨rfl, ⟨nd, rfl⟩⟩; refine ⟨_, rfl, ?_⟩))
                    go_ret
                    exact ⟨by first | rfl | (simp [errW_none, errW_some] <;> rfl) | (simp [*, errW_none, errW_some] <;> rfl), by repeat (first | (with_reducible first | exact HB.out | apply below_alloc | apply pw_below_drewN | apply below_drew1 | refine below_set ?_ GE263.out) | exact HB.out)⟩
                · rw [if_neg c20] at H
                  have c20b0 : (t269 == 0) = false := beq_eq_false_iff_ne.mpr c20
                  have c20b1 : (t269 != 0) = true := bne_iff_ne.mpr c20
                  obtain rfl := Option.some.inj H
                  have hcz65_0 : wc.cell? ⟨gb263, 0, none⟩ = some (.int .u32 a0_0) := (blk_cell BK263.out 0).trans rfl
                  have hcz65_1 : wc.cell? ⟨gb263, 1, none⟩ = some (.int .u32 a0_1) := (blk_cell BK263.out 1).trans rfl
                  have hcz65_2 : wc.cell? ⟨gb263, 2, none⟩ = some (.int .u64 a0_2) := (blk_cell BK263.out 2).trans rfl
                  have hcz65_3 : wc.cell? ⟨gb263, 3, none⟩ = some (.int .u64 a0_3) := (blk_cell BK263.out 3).trans rfl
                  have hcz65_4 : wc.cell? ⟨gb263, 4, none⟩ = some (.int .u64 a0_4) := (blk_cell BK263.out 4).trans rfl
                  have hcz65_5 : wc.cell? ⟨gb263, 5, none⟩ = some (.int .u64 a0_5) := (blk_cell BK263.out 5).trans rfl
                  have hcz65_6 : wc.cell? ⟨gb263, 6, none⟩ = some (.int .u64 a0_6) := (blk_cell BK263.out 6).trans rfl
                  have hcz65_7 : wc.cell? ⟨gb263, 7, none⟩ = some (.int .u64 a0_7) := (blk_cell BK263.out 7).trans rfl
                  have hcz65_8 : wc.cell? ⟨gb263, 8, none⟩ = some (.int .u64 a0_8) := (blk_cell BK263.out 8).trans rfl
                  have hfz65_0 := blk_frozen BK263.out 0
                  have hfz65_1 := blk_frozen BK263.out 1
                  have hfz65_2 := blk_frozen BK263.out 2
                  have hfz65_3 := blk_frozen BK263.out 3
                  have hfz65_4 := blk_frozen BK263.out 4
                  have hfz65_5 := blk_frozen BK263.out 5
                  have hfz65_6 := blk_frozen BK263.out 6
                  have hfz65_7 := blk_frozen BK263.out 7
                  have hfz65_8 := blk_frozen BK263.out 8
                  go_wp2_with (first | ((with_reducible refine gate_callee (f := 11) rfl ?_); refine goesL_ (some 44) rfl rfl Try.func11 (by kernel_rfl) rfl #[.agg #[.int .u32 a0_0, .int .u32 a0_1, .int .u64 a0_2, .int .u64 a0_3, .int .u64 a0_4, .int .u64 a0_5, .int .u64 a0_6, .int .u64 a0_7, .int .u64 a0_8], .int .u32 t265] rfl (by (try simp only [List.map_toArray, List.map_cons, List.map_nil]); first | done | rfl | (simp only [List.length_drop, List.length_take]; rfl)) ?_; (with_reducible refine (data_Load.calls kj4 a0_0 a0_1 a0_2 a0_3 a0_4 a0_5 a0_6 a0_7 a0_8 t265 t268 t269 _ A13.out).mono ?_); rintro e w66 ⟨rfl, hb⟩; refine ⟨_, rfl, ?_⟩; have n0_ := Aside0.mk (blk_below (g := gb263) (o := .cells #[.int .u32 a0_0, .int .u32 a0_1, .int .u64 a0_2, .int .u64 a0_3, .int .u64 a0_4, .int .u64 a0_5, .int .u64 a0_6, .int .u64 a0_7, .int .u64 a0_8] 26 (0, 0)) (by (with_reducible repeat (first | refine blk_drewN ?_ _ | refine blk_drew ?_ | refine blk_alloc ?_ _)); exact BK263.out) hb); have n1_ := Aside0.mk (below_step (by repeat (first | (with_reducible first | exact HB.out | apply below_alloc | apply pw_below_drewN | apply below_drew1 | refine below_set ?_ GE263.out) | exact HB.out)) hb); clear BK263; clear HB; have BK263 := n0_; have HB := n1_; clear n0_ n1_; (try clear hb); (try clear hb2); (try clear hk); (try clear hi); have hcz67_0 : w66.cell? ⟨gb263, 0, none⟩ = some (.int .u32 a0_0) := (blk_cell BK263.out 0).trans rfl; have hcz67_1 : w66.cell? ⟨gb263, 1, none⟩ = some (.int .u32 a0_1) := (blk_cell BK263.out 1).trans rfl; have hcz67_2 : w66.cell? ⟨gb263, 2, none⟩ = some (.int .u64 a0_2) := (blk_cell BK263.out 2).trans rfl; have hcz67_3 : w66.cell? ⟨gb263, 3, none⟩ = some (.int .u64 a0_3) := (blk_cell BK263.out 3).trans rfl; have hcz67_4 : w66.cell? ⟨gb263, 4, none⟩ = some (.int .u64 a0_4) := (blk_cell BK263.out 4).trans rfl; have hcz67_5 : w66.cell? ⟨gb263, 5, none⟩ = some (.int .u64 a0_5) := (blk_cell BK263.out 5).trans rfl; have hcz67_6 : w66.cell? ⟨gb263, 6, none⟩ = some (.int .u64 a0_6) := (blk_cell BK263.out 6).trans rfl; have hcz67_7 : w66.cell? ⟨gb263, 7, none⟩ = some (.int .u64 a0_7) := (blk_cell BK263.out 7).trans rfl; have hcz67_8 : w66.cell? ⟨gb263, 8, none⟩ = some (.int .u64 a0_8) := (blk_cell BK263.out 8).trans rfl; have hfz67_0 := blk_frozen BK263.out 0; have hfz67_1 := blk_frozen BK263.out 1; have hfz67_2 := blk_frozen BK263.out 2; have hfz67_3 := blk_frozen BK263.out 3; have hfz67_4 := blk_frozen BK263.out 4; have hfz67_5 := blk_frozen BK263.out 5; have hfz67_6 := blk_frozen BK263.out 6; have hfz67_7 := blk_frozen BK263.out 7; have hfz67_8 := blk_frozen BK263.out 8) | ((with_reducible refine gate_callee (f := 11) rfl ?_); refine goesL_ (some 50) rfl rfl Try.func11 (by kernel_rfl) rfl #[.agg #[.int .u32 a0_0, .int .u32 a0_1, .int .u64 a0_2, .int .u64 a0_3, .int .u64 a0_4, .int .u64 a0_5, .int .u64 a0_6, .int .u64 a0_7, .int .u64 a0_8], .int .u32 t266] rfl (by (try simp only [List.map_toArray, List.map_cons, List.map_nil]); first | done | rfl | (simp only [List.length_drop, List.length_take]; rfl)) ?_; (with_reducible refine (data_Load.calls kj4 a0_0 a0_1 a0_2 a0_3 a0_4 a0_5 a0_6 a0_7 a0_8 t266 t270 t271 _ A14.out).mono ?_); rintro e w68 ⟨rfl, hb⟩; refine ⟨_, rfl, ?_⟩; have n0_ := Aside0.mk (blk_below (g := gb263) (o := .cells #[.int .u32 a0_0, .int .u32 a0_1, .int .u64 a0_2, .int .u64 a0_3, .int .u64 a0_4, .int .u64 a0_5, .int .u64 a0_6, .int .u64 a0_7, .int .u64 a0_8] 26 (0, 0)) (by (with_reducible repeat (first | refine blk_drewN ?_ _ | refine blk_drew ?_ | refine blk_alloc ?_ _)); exact BK263.out) hb); have n1_ := Aside0.mk (below_step (by repeat (first | (with_reducible first | exact HB.out | apply below_alloc | apply pw_below_drewN | apply below_drew1 | refine below_set ?_ GE263.out) | exact HB.out)) hb); clear BK263; clear HB; have BK263 := n0_; have HB := n1_; clear n0_ n1_; (try clear hb); (try clear hb2); (try clear hk); (try clear hi); have hcz69_0 : w68.cell? ⟨gb263, 0, none⟩ = some (.int .u32 a0_0) := (blk_cell BK263.out 0).trans rfl; have hcz69_1 : w68.cell? ⟨gb263, 1, none⟩ = some (.int .u32 a0_1) := (blk_cell BK263.out 1).trans rfl; have hcz69_2 : w68.cell? ⟨gb263, 2, none⟩ = some (.int .u64 a0_2) := (blk_cell BK263.out 2).trans rfl; have hcz69_3 : w68.cell? ⟨gb263, 3, none⟩ = some (.int .u64 a0_3) := (blk_cell BK263.out 3).trans rfl; have hcz69_4 : w68.cell? ⟨gb263, 4, none⟩ = some (.int .u64 a0_4) := (blk_cell BK263.out 4).trans rfl; have hcz69_5 : w68.cell? ⟨gb263, 5, none⟩ = some (.int .u64 a0_5) := (blk_cell BK263.out 5).trans rfl; have hcz69_6 : w68.cell? ⟨gb263, 6, none⟩ = some (.int .u64 a0_6) := (blk_cell BK263.out 6).trans rfl; have hcz69_7 : w68.cell? ⟨gb263, 7, none⟩ = some (.int .u64 a0_7) := (blk_cell BK263.out 7).trans rfl; have hcz69_8 : w68.cell? ⟨gb263, 8, none⟩ = some (.int .u64 a0_8) := (blk_cell BK263.out 8).trans rfl; have hfz69_0 := blk_frozen BK263.out 0; have hfz69_1 := blk_frozen BK263.out 1; have hfz69_2 := blk_frozen BK263.out 2; have hfz69_3 := blk_frozen BK263.out 3; have hfz69_4 := blk_frozen BK263.out 4; have hfz69_5 := blk_frozen BK263.out 5; have hfz69_6 := blk_frozen BK263.out 6; have hfz69_7 := blk_frozen BK263.out 7; have hfz69_8 := blk_frozen BK263.out 8; have ps70 : 0 ≤ (a1 : Int) := of_decide_eq_true (by first | (with_reducible assumption) | assumption); have qs70 : (a1 : Int) < 6 := of_decide_eq_true (by first | (with_reducible assumption) | assumption); have hs70 := Mine.blk_at BK263.out 3 .u64 ([a0_3, a0_4, a0_5, a0_6, a0_7, a0_8] : List Int) rfl (a1) ps70 qs70; replace ps70 := eq_true ps70; replace qs70 := eq_true qs70) | ((with_reducible refine gate_callee (f := 14) rfl ?_); refine goesL_ (some 58) rfl rfl Try.func14 (by kernel_rfl) rfl #[.int .u64 (rd ([a0_3, a0_4, a0_5, a0_6, a0_7, a0_8] : List Int) a1)] rfl (by (try simp only [List.map_toArray, List.map_cons, List.map_nil]); first | done | rfl | (simp only [List.length_drop, List.length_take]; rfl)) ?_; (with_reducible refine (data_Halves.calls (rd ([a0_3, a0_4, a0_5, a0_6, a0_7, a0_8] : List Int) a1) t272 t273 _ A17.out).mono ?_); rintro e w' ⟨rfl, ⟨nd, rfl⟩⟩; refine ⟨_, rfl, ?_⟩))
                  go_ret
                  exact ⟨by first | rfl | (simp [errW_none, errW_some] <;> rfl) | (simp [*, errW_none, errW_some] <;> rfl), by repeat (first | (with_reducible first | exact HB.out | apply below_alloc | apply pw_below_drewN | apply below_drew1 | refine below_set ?_ GE263.out) | exact HB.out)⟩
              · rw [if_neg c19] at H
                have c19b0 : (t267 == 0) = false := beq_eq_false_iff_ne.mpr c19
                have c19b1 : (t267 != 0) = true := bne_iff_ne.mpr c19
                obtain rfl := Option.some.inj H
                have hcz71_0 : wc.cell? ⟨gb263, 0, none⟩ = some (.int .u32 a0_0) := (blk_cell BK263.out 0).trans rfl
                have hcz71_1 : wc.cell? ⟨gb263, 1, none⟩ = some (.int .u32 a0_1) := (blk_cell BK263.out 1).trans rfl
                have hcz71_2 : wc.cell? ⟨gb263, 2, none⟩ = some (.int .u64 a0_2) := (blk_cell BK263.out 2).trans rfl
                have hcz71_3 : wc.cell? ⟨gb263, 3, none⟩ = some (.int .u64 a0_3) := (blk_cell BK263.out 3).trans rfl
                have hcz71_4 : wc.cell? ⟨gb263, 4, none⟩ = some (.int .u64 a0_4) := (blk_cell BK263.out 4).trans rfl
                have hcz71_5 : wc.cell? ⟨gb263, 5, none⟩ = some (.int .u64 a0_5) := (blk_cell BK263.out 5).trans rfl
                have hcz71_6 : wc.cell? ⟨gb263, 6, none⟩ = some (.int .u64 a0_6) := (blk_cell BK263.out 6).trans rfl
                have hcz71_7 : wc.cell? ⟨gb263, 7, none⟩ = some (.int .u64 a0_7) := (blk_cell BK263.out 7).trans rfl
                have hcz71_8 : wc.cell? ⟨gb263, 8, none⟩ = some (.int .u64 a0_8) := (blk_cell BK263.out 8).trans rfl
                have hfz71_0 := blk_frozen BK263.out 0
                have hfz71_1 := blk_frozen BK263.out 1
                have hfz71_2 := blk_frozen BK263.out 2
                have hfz71_3 := blk_frozen BK263.out 3
                have hfz71_4 := blk_frozen BK263.out 4
                have hfz71_5 := blk_frozen BK263.out 5
                have hfz71_6 := blk_frozen BK263.out 6
                have hfz71_7 := blk_frozen BK263.out 7
                have hfz71_8 := blk_frozen BK263.out 8
                go_wp2_with (first | ((with_reducible refine gate_callee (f := 11) rfl ?_); refine goesL_ (some 44) rfl rfl Try.func11 (by kernel_rfl) rfl #[.agg #[.int .u32 a0_0, .int .u32 a0_1, .int .u64 a0_2, .int .u64 a0_3, .int .u64 a0_4, .int .u64 a0_5, .int .u64 a0_6, .int .u64 a0_7, .int .u64 a0_8], .int .u32 t265] rfl (by (try simp only [List.map_toArray, List.map_cons, List.map_nil]); first | done | rfl | (simp only [List.length_drop, List.length_take]; rfl)) ?_; (with_reducible refine (data_Load.calls kj4 a0_0 a0_1 a0_2 a0_3 a0_4 a0_5 a0_6 a0_7 a0_8 t265 t268 t269 _ A13.out).mono ?_); rintro e w72 ⟨rfl, hb⟩; refine ⟨_, rfl, ?_⟩; have n0_ := Aside0.mk (blk_below (g := gb263) (o := .cells #[.int .u32 a0_0, .int .u32 a0_1, .int .u64 a0_2, .int .u64 a0_3, .int .u64 a0_4, .int .u64 a0_5, .int .u64 a0_6, .int .u64 a0_7, .int .u64 a0_8] 26 (0, 0)) (by (with_reducible repeat (first | refine blk_drewN ?_ _ | refine blk_drew ?_ | refine blk_alloc ?_ _)); exact BK263.out) hb); have n1_ := Aside0.mk (below_step (by repeat (first | (with_reducible first | exact HB.out | apply below_alloc | apply pw_below_drewN | apply below_drew1 | refine below_set ?_ GE263.out) | exact HB.out)) hb); clear BK263; clear HB; have BK263 := n0_; have HB := n1_; clear n0_ n1_; (try clear hb); (try clear hb2); (try clear hk); (try clear hi); have hcz73_0 : w72.cell? ⟨gb263, 0, none⟩ = some (.int .u32 a0_0) := (blk_cell BK263.out 0).trans rfl; have hcz73_1 : w72.cell? ⟨gb263, 1, none⟩ = some (.int .u32 a0_1) := (blk_cell BK263.out 1).trans rfl; have hcz73_2 : w72.cell? ⟨gb263, 2, none⟩ = some (.int .u64 a0_2) := (blk_cell BK263.out 2).trans rfl; have hcz73_3 : w72.cell? ⟨gb263, 3, none⟩ = some (.int .u64 a0_3) := (blk_cell BK263.out 3).trans rfl; have hcz73_4 : w72.cell? ⟨gb263, 4, none⟩ = some (.int .u64 a0_4) := (blk_cell BK263.out 4).trans rfl; have hcz73_5 : w72.cell? ⟨gb263, 5, none⟩ = some (.int .u64 a0_5) := (blk_cell BK263.out 5).trans rfl; have hcz73_6 : w72.cell? ⟨gb263, 6, none⟩ = some (.int .u64 a0_6) := (blk_cell BK263.out 6).trans rfl; have hcz73_7 : w72.cell? ⟨gb263, 7, none⟩ = some (.int .u64 a0_7) := (blk_cell BK263.out 7).trans rfl; have hcz73_8 : w72.cell? ⟨gb263, 8, none⟩ = some (.int .u64 a0_8) := (blk_cell BK263.out 8).trans rfl; have hfz73_0 := blk_frozen BK263.out 0; have hfz73_1 := blk_frozen BK263.out 1; have hfz73_2 := blk_frozen BK263.out 2; have hfz73_3 := blk_frozen BK263.out 3; have hfz73_4 := blk_frozen BK263.out 4; have hfz73_5 := blk_frozen BK263.out 5; have hfz73_6 := blk_frozen BK263.out 6; have hfz73_7 := blk_frozen BK263.out 7; have hfz73_8 := blk_frozen BK263.out 8) | ((with_reducible refine gate_callee (f := 11) rfl ?_); refine goesL_ (some 50) rfl rfl Try.func11 (by kernel_rfl) rfl #[.agg #[.int .u32 a0_0, .int .u32 a0_1, .int .u64 a0_2, .int .u64 a0_3, .int .u64 a0_4, .int .u64 a0_5, .int .u64 a0_6, .int .u64 a0_7, .int .u64 a0_8], .int .u32 t266] rfl (by (try simp only [List.map_toArray, List.map_cons, List.map_nil]); first | done | rfl | (simp only [List.length_drop, List.length_take]; rfl)) ?_; (with_reducible refine (data_Load.calls kj4 a0_0 a0_1 a0_2 a0_3 a0_4 a0_5 a0_6 a0_7 a0_8 t266 t270 t271 _ A14.out).mono ?_); rintro e w74 ⟨rfl, hb⟩; refine ⟨_, rfl, ?_⟩; have n0_ := Aside0.mk (blk_below (g := gb263) (o := .cells #[.int .u32 a0_0, .int .u32 a0_1, .int .u64 a0_2, .int .u64 a0_3, .int .u64 a0_4, .int .u64 a0_5, .int .u64 a0_6, .int .u64 a0_7, .int .u64 a0_8] 26 (0, 0)) (by (with_reducible repeat (first | refine blk_drewN ?_ _ | refine blk_drew ?_ | refine blk_alloc ?_ _)); exact BK263.out) hb); have n1_ := Aside0.mk (below_step (by repeat (first | (with_reducible first | exact HB.out | apply below_alloc | apply pw_below_drewN | apply below_drew1 | refine below_set ?_ GE263.out) | exact HB.out)) hb); clear BK263; clear HB; have BK263 := n0_; have HB := n1_; clear n0_ n1_; (try clear hb); (try clear hb2); (try clear hk); (try clear hi); have hcz75_0 : w74.cell? ⟨gb263, 0, none⟩ = some (.int .u32 a0_0) := (blk_cell BK263.out 0).trans rfl; have hcz75_1 : w74.cell? ⟨gb263, 1, none⟩ = some (.int .u32 a0_1) := (blk_cell BK263.out 1).trans rfl; have hcz75_2 : w74.cell? ⟨gb263, 2, none⟩ = some (.int .u64 a0_2) := (blk_cell BK263.out 2).trans rfl; have hcz75_3 : w74.cell? ⟨gb263, 3, none⟩ = some (.int .u64 a0_3) := (blk_cell BK263.out 3).trans rfl; have hcz75_4 : w74.cell? ⟨gb263, 4, none⟩ = some (.int .u64 a0_4) := (blk_cell BK263.out 4).trans rfl; have hcz75_5 : w74.cell? ⟨gb263, 5, none⟩ = some (.int .u64 a0_5) := (blk_cell BK263.out 5).trans rfl; have hcz75_6 : w74.cell? ⟨gb263, 6, none⟩ = some (.int .u64 a0_6) := (blk_cell BK263.out 6).trans rfl; have hcz75_7 : w74.cell? ⟨gb263, 7, none⟩ = some (.int .u64 a0_7) := (blk_cell BK263.out 7).trans rfl; have hcz75_8 : w74.cell? ⟨gb263, 8, none⟩ = some (.int .u64 a0_8) := (blk_cell BK263.out 8).trans rfl; have hfz75_0 := blk_frozen BK263.out 0; have hfz75_1 := blk_frozen BK263.out 1; have hfz75_2 := blk_frozen BK263.out 2; have hfz75_3 := blk_frozen BK263.out 3; have hfz75_4 := blk_frozen BK263.out 4; have hfz75_5 := blk_frozen BK263.out 5; have hfz75_6 := blk_frozen BK263.out 6; have hfz75_7 := blk_frozen BK263.out 7; have hfz75_8 := blk_frozen BK263.out 8; have ps76 : 0 ≤ (a1 : Int) := of_decide_eq_true (by first | (with_reducible assumption) | assumption); have qs76 : (a1 : Int) < 6 := of_decide_eq_true (by first | (with_reducible assumption) | assumption); have hs76 := Mine.blk_at BK263.out 3 .u64 ([a0_3, a0_4, a0_5, a0_6, a0_7, a0_8] : List Int) rfl (a1) ps76 qs76; replace ps76 := eq_true ps76; replace qs76 := eq_true qs76) | ((with_reducible refine gate_callee (f := 14) rfl ?_); refine goesL_ (some 58) rfl rfl Try.func14 (by kernel_rfl) rfl #[.int .u64 (rd ([a0_3, a0_4, a0_5, a0_6, a0_7, a0_8] : List Int) a1)] rfl (by (try simp only [List.map_toArray, List.map_cons, List.map_nil]); first | done | rfl | (simp only [List.length_drop, List.length_take]; rfl)) ?_; (with_reducible refine (data_Halves.calls (rd ([a0_3, a0_4, a0_5, a0_6, a0_7, a0_8] : List Int) a1) t272 t273 _ A17.out).mono ?_); rintro e w' ⟨rfl, ⟨nd, rfl⟩⟩; refine ⟨_, rfl, ?_⟩))
                go_ret
                exact ⟨by first | rfl | (simp [errW_none, errW_some] <;> rfl) | (simp [*, errW_none, errW_some] <;> rfl), by repeat (first | (with_reducible first | exact HB.out | apply below_alloc | apply pw_below_drewN | apply below_drew1 | refine below_set ?_ GE263.out) | exact HB.out)⟩
            · replace c18 := Bool.eq_false_iff.mpr c18
              subst c18
              have H1 : (some false) = some r := by rw [if_neg (show ¬ (false = true) by decide)] at H; exact H
              clear H
              have H := H1
              clear H1
              obtain rfl := Option.some.inj H
              have hcz77_0 : wc.cell? ⟨gb263, 0, none⟩ = some (.int .u32 a0_0) := (blk_cell BK263.out 0).trans rfl
              have hcz77_1 : wc.cell? ⟨gb263, 1, none⟩ = some (.int .u32 a0_1) := (blk_cell BK263.out 1).trans rfl
              have hcz77_2 : wc.cell? ⟨gb263, 2, none⟩ = some (.int .u64 a0_2) := (blk_cell BK263.out 2).trans rfl
              have hcz77_3 : wc.cell? ⟨gb263, 3, none⟩ = some (.int .u64 a0_3) := (blk_cell BK263.out 3).trans rfl
              have hcz77_4 : wc.cell? ⟨gb263, 4, none⟩ = some (.int .u64 a0_4) := (blk_cell BK263.out 4).trans rfl
              have hcz77_5 : wc.cell? ⟨gb263, 5, none⟩ = some (.int .u64 a0_5) := (blk_cell BK263.out 5).trans rfl
              have hcz77_6 : wc.cell? ⟨gb263, 6, none⟩ = some (.int .u64 a0_6) := (blk_cell BK263.out 6).trans rfl
              have hcz77_7 : wc.cell? ⟨gb263, 7, none⟩ = some (.int .u64 a0_7) := (blk_cell BK263.out 7).trans rfl
              have hcz77_8 : wc.cell? ⟨gb263, 8, none⟩ = some (.int .u64 a0_8) := (blk_cell BK263.out 8).trans rfl
              have hfz77_0 := blk_frozen BK263.out 0
              have hfz77_1 := blk_frozen BK263.out 1
              have hfz77_2 := blk_frozen BK263.out 2
              have hfz77_3 := blk_frozen BK263.out 3
              have hfz77_4 := blk_frozen BK263.out 4
              have hfz77_5 := blk_frozen BK263.out 5
              have hfz77_6 := blk_frozen BK263.out 6
              have hfz77_7 := blk_frozen BK263.out 7
              have hfz77_8 := blk_frozen BK263.out 8
              go_wp2_with (first | ((with_reducible refine gate_callee (f := 11) rfl ?_); refine goesL_ (some 44) rfl rfl Try.func11 (by kernel_rfl) rfl #[.agg #[.int .u32 a0_0, .int .u32 a0_1, .int .u64 a0_2, .int .u64 a0_3, .int .u64 a0_4, .int .u64 a0_5, .int .u64 a0_6, .int .u64 a0_7, .int .u64 a0_8], .int .u32 t265] rfl (by (try simp only [List.map_toArray, List.map_cons, List.map_nil]); first | done | rfl | (simp only [List.length_drop, List.length_take]; rfl)) ?_; (with_reducible refine (data_Load.calls kj4 a0_0 a0_1 a0_2 a0_3 a0_4 a0_5 a0_6 a0_7 a0_8 t265 t268 t269 _ A13.out).mono ?_); rintro e w78 ⟨rfl, hb⟩; refine ⟨_, rfl, ?_⟩; have n0_ := Aside0.mk (blk_below (g := gb263) (o := .cells #[.int .u32 a0_0, .int .u32 a0_1, .int .u64 a0_2, .int .u64 a0_3, .int .u64 a0_4, .int .u64 a0_5, .int .u64 a0_6, .int .u64 a0_7, .int .u64 a0_8] 26 (0, 0)) (by (with_reducible repeat (first | refine blk_drewN ?_ _ | refine blk_drew ?_ | refine blk_alloc ?_ _)); exact BK263.out) hb); have n1_ := Aside0.mk (below_step (by repeat (first | (with_reducible first | exact HB.out | apply below_alloc | apply pw_below_drewN | apply below_drew1 | refine below_set ?_ GE263.out) | exact HB.out)) hb); clear BK263; clear HB; have BK263 := n0_; have HB := n1_; clear n0_ n1_; (try clear hb); (try clear hb2); (try clear hk); (try clear hi); have hcz79_0 : w78.cell? ⟨gb263, 0, none⟩ = some (.int .u32 a0_0) := (blk_cell BK263.out 0).trans rfl; have hcz79_1 : w78.cell? ⟨gb263, 1, none⟩ = some (.int .u32 a0_1) := (blk_cell BK263.out 1).trans rfl; have hcz79_2 : w78.cell? ⟨gb263, 2, none⟩ = some (.int .u64 a0_2) := (blk_cell BK263.out 2).trans rfl; have hcz79_3 : w78.cell? ⟨gb263, 3, none⟩ = some (.int .u64 a0_3) := (blk_cell BK263.out 3).trans rfl; have hcz79_4 : w78.cell? ⟨gb263, 4, none⟩ = some (.int .u64 a0_4) := (blk_cell BK263.out 4).trans rfl; have hcz79_5 : w78.cell? ⟨gb263, 5, none⟩ = some (.int .u64 a0_5) := (blk_cell BK263.out 5).trans rfl; have hcz79_6 : w78.cell? ⟨gb263, 6, none⟩ = some (.int .u64 a0_6) := (blk_cell BK263.out 6).trans rfl; have hcz79_7 : w78.cell? ⟨gb263, 7, none⟩ = some (.int .u64 a0_7) := (blk_cell BK263.out 7).trans rfl; have hcz79_8 : w78.cell? ⟨gb263, 8, none⟩ = some (.int .u64 a0_8) := (blk_cell BK263.out 8).trans rfl; have hfz79_0 := blk_frozen BK263.out 0; have hfz79_1 := blk_frozen BK263.out 1; have hfz79_2 := blk_frozen BK263.out 2; have hfz79_3 := blk_frozen BK263.out 3; have hfz79_4 := blk_frozen BK263.out 4; have hfz79_5 := blk_frozen BK263.out 5; have hfz79_6 := blk_frozen BK263.out 6; have hfz79_7 := blk_frozen BK263.out 7; have hfz79_8 := blk_frozen BK263.out 8) | ((with_reducible refine gate_callee (f := 11) rfl ?_); refine goesL_ (some 50) rfl rfl Try.func11 (by kernel_rfl) rfl #[.agg #[.int .u32 a0_0, .int .u32 a0_1, .int .u64 a0_2, .int .u64 a0_3, .int .u64 a0_4, .int .u64 a0_5, .int .u64 a0_6, .int .u64 a0_7, .int .u64 a0_8], .int .u32 t266] rfl (by (try simp only [List.map_toArray, List.map_cons, List.map_nil]); first | done | rfl | (simp only [List.length_drop, List.length_take]; rfl)) ?_; (with_reducible refine (data_Load.calls kj4 a0_0 a0_1 a0_2 a0_3 a0_4 a0_5 a0_6 a0_7 a0_8 t266 t270 t271 _ A14.out).mono ?_); rintro e w80 ⟨rfl, hb⟩; refine ⟨_, rfl, ?_⟩; have n0_ := Aside0.mk (blk_below (g := gb263) (o := .cells #[.int .u32 a0_0, .int .u32 a0_1, .int .u64 a0_2, .int .u64 a0_3, .int .u64 a0_4, .int .u64 a0_5, .int .u64 a0_6, .int .u64 a0_7, .int .u64 a0_8] 26 (0, 0)) (by (with_reducible repeat (first | refine blk_drewN ?_ _ | refine blk_drew ?_ | refine blk_alloc ?_ _)); exact BK263.out) hb); have n1_ := Aside0.mk (below_step (by repeat (first | (with_reducible first | exact HB.out | apply below_alloc | apply pw_below_drewN | apply below_drew1 | refine below_set ?_ GE263.out) | exact HB.out)) hb); clear BK263; clear HB; have BK263 := n0_; have HB := n1_; clear n0_ n1_; (try clear hb); (try clear hb2); (try clear hk); (try clear hi); have hcz81_0 : w80.cell? ⟨gb263, 0, none⟩ = some (.int .u32 a0_0) := (blk_cell BK263.out 0).trans rfl; have hcz81_1 : w80.cell? ⟨gb263, 1, none⟩ = some (.int .u32 a0_1) := (blk_cell BK263.out 1).trans rfl; have hcz81_2 : w80.cell? ⟨gb263, 2, none⟩ = some (.int .u64 a0_2) := (blk_cell BK263.out 2).trans rfl; have hcz81_3 : w80.cell? ⟨gb263, 3, none⟩ = some (.int .u64 a0_3) := (blk_cell BK263.out 3).trans rfl; have hcz81_4 : w80.cell? ⟨gb263, 4, none⟩ = some (.int .u64 a0_4) := (blk_cell BK263.out 4).trans rfl; have hcz81_5 : w80.cell? ⟨gb263, 5, none⟩ = some (.int .u64 a0_5) := (blk_cell BK263.out 5).trans rfl; have hcz81_6 : w80.cell? ⟨gb263, 6, none⟩ = some (.int .u64 a0_6) := (blk_cell BK263.out 6).trans rfl; have hcz81_7 : w80.cell? ⟨gb263, 7, none⟩ = some (.int .u64 a0_7) := (blk_cell BK263.out 7).trans rfl; have hcz81_8 : w80.cell? ⟨gb263, 8, none⟩ = some (.int .u64 a0_8) := (blk_cell BK263.out 8).trans rfl; have hfz81_0 := blk_frozen BK263.out 0; have hfz81_1 := blk_frozen BK263.out 1; have hfz81_2 := blk_frozen BK263.out 2; have hfz81_3 := blk_frozen BK263.out 3; have hfz81_4 := blk_frozen BK263.out 4; have hfz81_5 := blk_frozen BK263.out 5; have hfz81_6 := blk_frozen BK263.out 6; have hfz81_7 := blk_frozen BK263.out 7; have hfz81_8 := blk_frozen BK263.out 8; have ps82 : 0 ≤ (a1 : Int) := of_decide_eq_true (by first | (with_reducible assumption) | assumption); have qs82 : (a1 : Int) < 6 := of_decide_eq_true (by first | (with_reducible assumption) | assumption); have hs82 := Mine.blk_at BK263.out 3 .u64 ([a0_3, a0_4, a0_5, a0_6, a0_7, a0_8] : List Int) rfl (a1) ps82 qs82; replace ps82 := eq_true ps82; replace qs82 := eq_true qs82) | ((with_reducible refine gate_callee (f := 14) rfl ?_); refine goesL_ (some 58) rfl rfl Try.func14 (by kernel_rfl) rfl #[.int .u64 (rd ([a0_3, a0_4, a0_5, a0_6, a0_7, a0_8] : List Int) a1)] rfl (by (try simp only [List.map_toArray, List.map_cons, List.map_nil]); first | done | rfl | (simp only [List.length_drop, List.length_take]; rfl)) ?_; (with_reducible refine (data_Halves.calls (rd ([a0_3, a0_4, a0_5, a0_6, a0_7, a0_8] : List Int) a1) t272 t273 _ A17.out).mono ?_); rintro e w' ⟨rfl, ⟨nd, rfl⟩⟩; refine ⟨_, rfl, ?_⟩))
              go_ret
              exact ⟨by first | rfl | (simp [errW_none, errW_some] <;> rfl) | (simp [*, errW_none, errW_some] <;> rfl), by repeat (first | (with_reducible first | exact HB.out | apply below_alloc | apply pw_below_drewN | apply below_drew1 | refine below_set ?_ GE263.out) | exact HB.out)⟩
          · rw [if_neg c16] at H
            exact absurd H (by simp)
        · rw [if_neg c15] at H
          exact absurd H (by simp)

/-- What is to be shown of fairleadlaw04_DataHalves, without Go and memory. -/
def fairleadlaw04_DataHalves.Pure : Prop := ∀ (a0_0 : Int) (a0_1 : Int) (a0_2 : Int) (a0_3 : Int) (a0_4 : Int) (a0_5 : Int) (a0_6 : Int) (a0_7 : Int) (a0_8 : Int) (a1 : Int), ((0 ≤ a0_0 ∧ a0_0 ≤ 4294967295) ∧ (0 ≤ a0_1 ∧ a0_1 ≤ 4294967295) ∧ (0 ≤ a0_2 ∧ a0_2 ≤ 18446744073709551615) ∧ ((0 ≤ a0_3 ∧ a0_3 ≤ 18446744073709551615) ∧ (0 ≤ a0_4 ∧ a0_4 ≤ 18446744073709551615) ∧ (0 ≤ a0_5 ∧ a0_5 ≤ 18446744073709551615) ∧ (0 ≤ a0_6 ∧ a0_6 ≤ 18446744073709551615) ∧ (0 ≤ a0_7 ∧ a0_7 ≤ 18446744073709551615) ∧ (0 ≤ a0_8 ∧ a0_8 ≤ 18446744073709551615))) → ((-9223372036854775808) ≤ a1 ∧ a1 ≤ 9223372036854775807) → ∃ k, fairleadlaw04_DataHalves.f k a0_0 a0_1 a0_2 a0_3 a0_4 a0_5 a0_6 a0_7 a0_8 a1 = some true

/-! ### data_joined: function 20 -/
def data_joined.f (a0 : Int) (a1 : Int) : Option (Int) := some (Go.bits .or .u64 (IntKind.u64.wrap ((IntKind.u64.wrap (a1)) * 4294967296)) (IntKind.u64.wrap (a0)))
set_option maxHeartbeats 8000000 in
set_option maxRecDepth 100000 in
theorem data_joined.calls (a0 : Int) (a1 : Int) (r : Int) (w : World) (h : data_joined.f a0 a1 = some r) :
    Calls Try.prog 20 #[.int .u32 a0, .int .u32 a1] w fun e w' => e = .returned (.int .u64 r) ∧ Drawn0 w w' := by
  have H : (some (Go.bits .or .u64 (IntKind.u64.wrap ((IntKind.u64.wrap (a1)) * 4294967296)) (IntKind.u64.wrap (a0)))) = some r := h
  clear h
  obtain rfl := Option.some.inj H
  go_enter Try.func20, Try.ntmps20
  go_wp2
  go_ret
  exact ⟨by first | rfl | (simp; done) | (simp [*]; done), by repeat (first | exact Drawn0.refl _ | apply Drawn0.step)⟩

-- NOT PRINTED: function 15 (data_Of)

end Go.Proofs.Ytkbdbphcdehmhaa.M
