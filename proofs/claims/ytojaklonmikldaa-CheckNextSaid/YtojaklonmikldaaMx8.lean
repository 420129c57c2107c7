-- Laid by a program (wip/tools/myprint.py) out of the loaded program's own print: for each Go function a Lean function and the proof of its contract.
import Derived.Test.YtojaklonmikldaaMx0
import Derived.Test.YtojaklonmikldaaMx3
import Derived.Test.YtojaklonmikldaaMx6
import Derived.Test.YtojaklonmikldaaMx7
namespace Go.Proofs.Ytojaklonmikldaa.M
open Go.RowKit Go.Proofs.YtojaklonmikldaaW.PrintWords Go.Proofs.YtojaklonmikldaaW.PrintLast Go.Proofs.YtojaklonmikldaaW.PrintMore
attribute [local go_sem] max2_int min2_int max_two min_two max_three min_three max_four min_four   -- for this text's walks alone
set_option linter.unusedVariables false
set_option linter.unusedSimpArgs false

/-! ### fairleadref05_Next: function 14 -/
mutual
def fairleadref05_Next.j0 : Nat → List (S32) → Int → List Int → Bool → Option (List Int)
  | 0, _, _, _, _ => none
  | k + 1, x0, x1, x5, x17 => if x17 = true then (some ([] : List Int)) else (if 0 ≤ x1 then (if x1 < (x0.length : Int) then (fairleadref05_Next.l0 k x0 x1 x5 (wrap64 (x1 + 1)) ((rd_T32 x0 x1).f0) ((rd_T32 x0 x1).f1) ((rd_T32 x0 x1).f2) ((rd_T32 x0 x1).f3)) else (none)) else (none))
def fairleadref05_Next.l0 : Nat → List (S32) → Int → List Int → Int → Int → Int → Int → Int → Option (List Int)
  | 0, _, _, _, _, _, _, _, _ => none
  | k + 1, x0, x1, x5, x7, x205000, x205001, x205002, x205003 => if x7 < (x0.length : Int) then (if x205000 = 5 then (if (IntKind.u64.wrap (wrap64 ((wrap64 (x7 - x1)) - 1))) = (IntKind.u64.wrap (x205003)) then (if x5.length < 17592186044416 then (fairleadref05_Next.l0 k x0 x1 (x5 ++ [x7]) (wrap64 (x7 + 1)) x205000 x205001 x205002 x205003) else (none)) else (fairleadref05_Next.l0 k x0 x1 x5 (wrap64 (x7 + 1)) x205000 x205001 x205002 x205003)) else ((fairleadref03_Jumps.f x205000).bind fun t208 => (if t208 = true then (if (IntKind.u64.wrap (wrap64 ((wrap64 (x7 - x1)) - 1))) = (IntKind.u64.wrap (x205001)) then (if x5.length < 17592186044416 then (fairleadref05_Next.l0 k x0 x1 (x5 ++ [x7]) (wrap64 (x7 + 1)) x205000 x205001 x205002 x205003) else (none)) else (if (IntKind.u64.wrap (wrap64 ((wrap64 (x7 - x1)) - 1))) = (IntKind.u64.wrap (x205002)) then (if x5.length < 17592186044416 then (fairleadref05_Next.l0 k x0 x1 (x5 ++ [x7]) (wrap64 (x7 + 1)) x205000 x205001 x205002 x205003) else (none)) else (fairleadref05_Next.l0 k x0 x1 x5 (wrap64 (x7 + 1)) x205000 x205001 x205002 x205003))) else ((fairleadref03_Ends.f x205000).bind fun t215 => (if t215 = true then (fairleadref05_Next.l0 k x0 x1 x5 (wrap64 (x7 + 1)) x205000 x205001 x205002 x205003) else (if (IntKind.u64.wrap (wrap64 ((wrap64 (x7 - x1)) - 1))) = 0 then (if x5.length < 17592186044416 then (fairleadref05_Next.l0 k x0 x1 (x5 ++ [x7]) (wrap64 (x7 + 1)) x205000 x205001 x205002 x205003) else (none)) else (fairleadref05_Next.l0 k x0 x1 x5 (wrap64 (x7 + 1)) x205000 x205001 x205002 x205003))))))) else (some x5)
end
def fairleadref05_Next.f (k : Nat) (l0 : List (S32)) (a1 : Int) : Option (List Int) := if a1 < 0 then (fairleadref05_Next.j0 k l0 a1 ([] : List Int) true) else (fairleadref05_Next.j0 k l0 a1 ([] : List Int) (decide (a1 ≥ (l0.length : Int))))
theorem fairleadref05_Next.mono_l : ∀ k, (∀ y0 y1 y2 y3, LeO (fairleadref05_Next.j0 k y0 y1 y2 y3) (fairleadref05_Next.j0 (k + 1) y0 y1 y2 y3)) ∧ (∀ y0 y1 y2 y3 y4 y5 y6 y7, LeO (fairleadref05_Next.l0 k y0 y1 y2 y3 y4 y5 y6 y7) (fairleadref05_Next.l0 (k + 1) y0 y1 y2 y3 y4 y5 y6 y7))
  | 0 => ⟨fun _ _ _ _ r h => by simp [fairleadref05_Next.j0] at h, fun _ _ _ _ _ _ _ _ r h => by simp [fairleadref05_Next.l0] at h⟩
  | k + 1 => by
    obtain ⟨ih0, ih1⟩ := fairleadref05_Next.mono_l k
    refine ⟨?_, ?_⟩
    · intro y0 y1 y2 y3
      unfold fairleadref05_Next.j0
      repeat' first
      | (with_reducible exact ih0 _ _ _ _)
      | (with_reducible exact ih1 _ _ _ _ _ _ _ _)
      | (with_reducible exact LeO.refl _)
      | (with_reducible exact LeO.none _)
      | (with_reducible refine LeO.ite ?_ ?_)
      | (with_reducible refine LeO.bind ?_ (fun _ => ?_))
      | exact ih0 _ _ _ _
      | exact ih1 _ _ _ _ _ _ _ _
      | exact LeO.none _
      | refine LeO.ite ?_ ?_
      | refine LeO.bind ?_ (fun _ => ?_)
    · intro y0 y1 y2 y3 y4 y5 y6 y7
      unfold fairleadref05_Next.l0
      repeat' first
      | (with_reducible exact ih0 _ _ _ _)
      | (with_reducible exact ih1 _ _ _ _ _ _ _ _)
      | (with_reducible exact LeO.refl _)
      | (with_reducible exact LeO.none _)
      | (with_reducible refine LeO.ite ?_ ?_)
      | (with_reducible refine LeO.bind ?_ (fun _ => ?_))
      | exact ih0 _ _ _ _
      | exact ih1 _ _ _ _ _ _ _ _
      | exact LeO.none _
      | refine LeO.ite ?_ ?_
      | refine LeO.bind ?_ (fun _ => ?_)
theorem fairleadref05_Next.mono : ∀ a0 a1 k, LeO (fairleadref05_Next.f k a0 a1) (fairleadref05_Next.f (k + 1) a0 a1) := by
  intro a0 a1 k
  obtain ⟨ih0, ih1⟩ := fairleadref05_Next.mono_l k
  unfold fairleadref05_Next.f
  repeat' first
      | (with_reducible exact ih0 _ _ _ _)
      | (with_reducible exact ih1 _ _ _ _ _ _ _ _)
      | (with_reducible exact LeO.refl _)
      | (with_reducible exact LeO.none _)
      | (with_reducible refine LeO.ite ?_ ?_)
      | (with_reducible refine LeO.bind ?_ (fun _ => ?_))
      | exact ih0 _ _ _ _
      | exact ih1 _ _ _ _ _ _ _ _
      | exact LeO.none _
      | refine LeO.ite ?_ ?_
      | refine LeO.bind ?_ (fun _ => ?_)
set_option maxHeartbeats 8000000 in
set_option maxRecDepth 100000 in
theorem fairleadref05_Next.calls (k : Nat) (A0 : Option Addr) (c0 : Nat) (l0 : List (S32)) (a1 : Int) (r : List Int) (w : World) (hr0 : Kd.C k32 w A0 l0.length l0) (hc0 : l0.length ≤ c0) (h : fairleadref05_Next.f k l0 a1 = some r) :
    Calls Try.prog 14 #[.slice A0 l0.length c0, .int .i64 a1] w fun e w' => ∃ v0_ : Value, e = .returned (v0_) ∧ Kd.R (Kd.int .i64) 3 w' w.heap.size (fun _ => True) v0_ r ∧ Below w.heap.size w w' := by
  have hu32 := Try.underlying32
  have HR0 := Aside0.mk hr0
  have HC0 := Aside0.mk hc0
  clear hr0 hc0
  have HB := Aside0.mk (Below.refl w.heap.size w)
  have H : (if a1 < 0 then (fairleadref05_Next.j0 k l0 a1 ([] : List Int) true) else (fairleadref05_Next.j0 k l0 a1 ([] : List Int) (decide (a1 ≥ (l0.length : Int))))) = some r := h
  clear h
  have HC3 := Aside0.mk H
  clear H
  go_enter Try.func14, Try.ntmps14
  go_upto_region 2 with (fail)
  go_cut [17] (fun v17 wc => ∃ (kq : Nat) (x17_2 : Bool), v17 = .bool x17_2 ∧ Aside0 (fairleadref05_Next.j0 kq l0 a1 ([] : List Int) x17_2 = some r) ∧ Aside0 (kq ≤ k) ∧ Aside0 (Kd.R (Kd.int .i64) 3 wc w.heap.size (fun _ => True) (.slice none 0 0) ([] : List Int)) ∧ Aside0 (Below w.heap.size w wc))
  case first =>
    have H := HC3.out
    clear HC3
    by_cases c4 : a1 < 0
    · rw [if_pos c4] at H
      have c4b0 : decide (a1 < 0) = true := decide_eq_true c4
      clear c4
      (first | rw [c4b0] | (simp only [i64_w, i32_w]; rw [c4b0]) | skip)
      have H' := Aside0.mk H
      clear H
      go_wp2
      go_meet
      case rel => exact ⟨_, (true), (by first | rfl | (simp; done) | (simp [*]; done)), H', ⟨by first | omega | exact Nat.le_refl _⟩, ⟨by first | exact Kd.R_nil _ _ _ _ _ | exact Kd.N_nil _ _ _ _ _ | exact Kd.V_nil _ _ _ _ _ | exact Kd.Q_nil _ _ _ _ _ | exact Kd.S_nil _ _ _ _ _⟩, ⟨by repeat (first | (with_reducible first | exact HB.out | apply below_alloc | apply pw_below_drewN | apply below_drew1) | exact HB.out)⟩⟩
    · rw [if_neg c4] at H
      have c4b0 : decide (a1 < 0) = false := decide_eq_false c4
      clear c4
      (first | rw [c4b0] | (simp only [i64_w, i32_w]; rw [c4b0]) | skip)
      have H' := Aside0.mk H
      clear H
      go_wp2
      go_meet
      case rel => exact ⟨_, (decide (a1 ≥ (l0.length : Int))), (by first | rfl | (simp; done) | (simp [*]; done)), H', ⟨by first | omega | exact Nat.le_refl _⟩, ⟨by first | exact Kd.R_nil _ _ _ _ _ | exact Kd.N_nil _ _ _ _ _ | exact Kd.V_nil _ _ _ _ _ | exact Kd.Q_nil _ _ _ _ _ | exact Kd.S_nil _ _ _ _ _⟩, ⟨by repeat (first | (with_reducible first | exact HB.out | apply below_alloc | apply pw_below_drewN | apply below_drew1) | exact HB.out)⟩⟩
  case rest =>
    clear HC3
    try clear c1
    try clear p2
    try clear c4
    try clear c4b0
    obtain ⟨kq, x17_2, rfl, HA, HJ2, HO_5, HB⟩ := hcut
    cases kq with
    | zero => exact absurd HA.out (by simp [fairleadref05_Next.j0])
    | succ kj2 =>
      have H := HA.out
      clear HA
      simp only [fairleadref05_Next.j0] at H
      by_cases c5 : x17_2 = true
      · subst c5
        have H1 : (some ([] : List Int)) = some r := by rw [if_pos rfl] at H; exact H
        clear H
        have H := H1
        clear H1
        obtain rfl := Option.some.inj H
        go_wp2
        go_ret
        exact ⟨_, by first | rfl | (simp [errW_none, errW_some] <;> rfl) | (simp [*, errW_none, errW_some] <;> rfl), by first | exact Kd.R_nil _ _ _ _ _ | exact Kd.N_nil _ _ _ _ _ | exact Kd.V_nil _ _ _ _ _ | exact Kd.Q_nil _ _ _ _ _ | exact Kd.S_nil _ _ _ _ _, by repeat (first | (with_reducible first | exact HB.out | apply below_alloc | apply pw_below_drewN | apply below_drew1) | exact HB.out)⟩
      · replace c5 := Bool.eq_false_iff.mpr c5
        subst c5
        have H1 : (if 0 ≤ a1 then (if a1 < (l0.length : Int) then (fairleadref05_Next.l0 kj2 l0 a1 ([] : List Int) (wrap64 (a1 + 1)) ((rd_T32 l0 a1).f0) ((rd_T32 l0 a1).f1) ((rd_T32 l0 a1).f2) ((rd_T32 l0 a1).f3)) else (none)) else (none)) = some r := by rw [if_neg (show ¬ (false = true) by decide)] at H; exact H
        clear H
        have H := H1
        clear H1
        by_cases c6 : 0 ≤ a1
        · rw [if_pos c6] at H
          have c6b0 : decide (0 ≤ a1) = true := decide_eq_true c6
          clear c6
          by_cases c7 : a1 < (l0.length : Int)
          · rw [if_pos c7] at H
            have c7b0 : decide (a1 < (l0.length : Int)) = true := decide_eq_true c7
            clear c7
            have H' := Aside0.mk H
            clear H
            have p203 : 0 ≤ (a1 : Int) := of_decide_eq_true (by first | (with_reducible assumption) | assumption)
            have q203 : a1 < (l0.length : Int) := of_decide_eq_true (by first | (with_reducible assumption) | assumption)
            obtain ⟨ad203, e203, hx203_0, hx203_1, hx203_2, hx203_3⟩ := at_T32 HR0.out a1 p203 q203
            cases e203
            replace hx203_0 := (HB.out.cell (World.block_lt_of_cell? w _ hx203_0)).trans hx203_0
            replace hx203_1 := (HB.out.cell (World.block_lt_of_cell? w _ hx203_1)).trans hx203_1
            replace hx203_2 := (HB.out.cell (World.block_lt_of_cell? w _ hx203_2)).trans hx203_2
            replace hx203_3 := (HB.out.cell (World.block_lt_of_cell? w _ hx203_3)).trans hx203_3
            replace p203 := eq_true p203
            replace q203 := eq_true q203
            go_wp2_with (first | ((with_reducible refine gate_dst (N := 6) rfl ?_); (try (refine gate_guard (by rfl) ?_; dsimp only)); refine box_event ?hg (N := 6) ?hd (cs := #[.int .u16 0, .int .u8 0, .int .u8 0, .int .u32 0]) (t := 32) ?hr ?_; (case hd => rfl); (case hg => rfl); (case hr => first | (go_simp; done) | (go_simp; rfl)); intro gb204 hg w8 hbox hb; have n0_ := Aside0.mk (Kd.R_below (by (with_reducible repeat (first | apply Kd.R_alloc | apply Kd.R_drewN | apply Kd.R_drew)); exact HO_5.out) hb); have n1_ := Aside0.mk (below_step (by repeat (first | (with_reducible first | exact HB.out | apply below_alloc | apply pw_below_drewN | apply below_drew1) | exact HB.out)) hb); have n2_ := Aside0.mk (hbox); have n3_ := Aside0.mk ((by rw [hg]; exact (below_size (by repeat (first | (with_reducible first | exact HB.out | apply below_alloc | apply pw_below_drewN | apply below_drew1) | exact HB.out))) : w.heap.size ≤ gb204)); have n4_ := Aside0.mk ((by rw [hg]; exact (below_size (by repeat (first | (with_reducible first | exact HB.out | apply below_alloc | apply pw_below_drewN | apply below_drew1) | exact HB.out))) : w.heap.size ≤ gb204)); clear HO_5; clear HB; have HO_5 := n0_; have HB := n1_; have BK204 := n2_; have GW204 := n3_; have GE204 := n4_; clear n0_ n1_ n2_ n3_ n4_; clear hb hbox hg; have hcz9_0 : w8.cell? ⟨gb204, 0, none⟩ = some (.int .u16 0) := (blk_cell BK204.out 0).trans rfl; have hcz9_1 : w8.cell? ⟨gb204, 1, none⟩ = some (.int .u8 0) := (blk_cell BK204.out 1).trans rfl; have hcz9_2 : w8.cell? ⟨gb204, 2, none⟩ = some (.int .u8 0) := (blk_cell BK204.out 2).trans rfl; have hcz9_3 : w8.cell? ⟨gb204, 3, none⟩ = some (.int .u32 0) := (blk_cell BK204.out 3).trans rfl; have hfz9_0 := blk_frozen BK204.out 0; have hfz9_1 := blk_frozen BK204.out 1; have hfz9_2 := blk_frozen BK204.out 2; have hfz9_3 := blk_frozen BK204.out 3))
            go_loopg [5, 7] kj2 (fun kq v5 v7 w' => ∃ (x5_2 : List Int) (x7_2 : Int), v7 = .int .i64 x7_2 ∧ Aside0 (fairleadref05_Next.l0 kq l0 a1 x5_2 x7_2 ((rd_T32 l0 a1).f0) ((rd_T32 l0 a1).f1) ((rd_T32 l0 a1).f2) ((rd_T32 l0 a1).f3) = some r) ∧ Aside0 (kq ≤ kj2) ∧ Aside0 (Kd.R (Kd.int .i64) 3 w' w.heap.size (fun _ => True) v5 x5_2) ∧ Aside0 (w'.heap[gb204]? = some (.cells #[.int .u16 ((rd_T32 l0 a1).f0), .int .u8 ((rd_T32 l0 a1).f1), .int .u8 ((rd_T32 l0 a1).f2), .int .u32 ((rd_T32 l0 a1).f3)] 32 (0, 0))) ∧ Aside0 (Below w.heap.size w w'))
            case atStart => exact ⟨(([] : List Int)), (wrap64 (a1 + 1)), (by first | rfl | (simp; done) | (simp [*]; done)), H', ⟨Nat.le_refl _⟩, ⟨by (with_reducible repeat (first | apply Kd.R_alloc | apply Kd.R_drewN | apply Kd.R_drew)); exact Kd.R_mono (Kd.R_far (p := ⟨gb204, 3, none⟩) (Kd.R_far (p := ⟨gb204, 2, none⟩) (Kd.R_far (p := ⟨gb204, 1, none⟩) (Kd.R_far (p := ⟨gb204, 0, none⟩) (Kd.R_types HO_5.out BK204.out (by decide)) (fun _ hk => by first | exact hk.2 | exact hk | exact trivial) (.int .u16 ((rd_T32 l0 a1).f0))) (fun _ hk => by first | exact hk.2 | exact hk | exact trivial) (.int .u8 ((rd_T32 l0 a1).f1))) (fun _ hk => by first | exact hk.2 | exact hk | exact trivial) (.int .u8 ((rd_T32 l0 a1).f2))) (fun _ hk => by first | exact hk.2 | exact hk | exact trivial) (.int .u32 ((rd_T32 l0 a1).f3))) (fun _ hk => trivial)⟩, ⟨by (with_reducible repeat (first | refine blk_drewN ?_ _ | refine blk_drew ?_ | refine blk_alloc ?_ _)); refine blk_put (cs := #[.int .u16 ((rd_T32 l0 a1).f0), .int .u8 ((rd_T32 l0 a1).f1), .int .u8 ((rd_T32 l0 a1).f2), .int .u32 0]) ?_ 3 _ rfl; (with_reducible repeat (first | refine blk_drewN ?_ _ | refine blk_drew ?_ | refine blk_alloc ?_ _)); refine blk_put (cs := #[.int .u16 ((rd_T32 l0 a1).f0), .int .u8 ((rd_T32 l0 a1).f1), .int .u8 0, .int .u32 0]) ?_ 2 _ rfl; (with_reducible repeat (first | refine blk_drewN ?_ _ | refine blk_drew ?_ | refine blk_alloc ?_ _)); refine blk_put (cs := #[.int .u16 ((rd_T32 l0 a1).f0), .int .u8 0, .int .u8 0, .int .u32 0]) ?_ 1 _ rfl; (with_reducible repeat (first | refine blk_drewN ?_ _ | refine blk_drew ?_ | refine blk_alloc ?_ _)); refine blk_put (cs := #[.int .u16 0, .int .u8 0, .int .u8 0, .int .u32 0]) ?_ 0 _ rfl; (with_reducible repeat (first | refine blk_drewN ?_ _ | refine blk_drew ?_ | refine blk_alloc ?_ _)); exact BK204.out⟩, ⟨by repeat (first | (with_reducible first | exact HB.out | apply below_alloc | apply pw_below_drewN | apply below_drew1 | refine below_set ?_ GE204.out) | exact HB.out)⟩⟩
            case round =>
              clear H'
              try clear c1
              try clear p2
              try clear q2
              try clear hx2
              try clear c4
              try clear c4b0
              try clear c5
              try clear c6
              try clear c6b0
              try clear p6
              try clear c7
              try clear c7b0
              try clear hcz9_0
              try clear hcz9_1
              try clear hcz9_2
              try clear hcz9_3
              try clear hfz9_0
              try clear hfz9_1
              try clear hfz9_2
              try clear hfz9_3
              try clear hx203_0
              try clear hx203_1
              try clear hx203_2
              try clear hx203_3
              try clear p2
              try clear p203
              try clear q203
              obtain ⟨x5_2, x7_2, rfl, HA, HK2, HO_5, BK204, HB⟩ := hrel
              cases gk with
              | zero => exact absurd HA.out (by simp [fairleadref05_Next.l0])
              | succ k2 =>
                have H := HA.out
                clear HA
                simp only [fairleadref05_Next.l0] at H
                by_cases c10 : x7_2 < (l0.length : Int)
                · rw [if_pos c10] at H
                  have c10b0 : decide (x7_2 < (l0.length : Int)) = true := decide_eq_true c10
                  clear c10
                  by_cases c11 : ((rd_T32 l0 a1).f0) = 5
                  · rw [if_pos c11] at H
                    have c11b0 : (((rd_T32 l0 a1).f0) == 5) = true := beq_iff_eq.mpr c11
                    have c11b1 : (((rd_T32 l0 a1).f0) != 5) = false := bne_eq_false_iff_eq.mpr c11
                    clear c11
                    by_cases c12 : (IntKind.u64.wrap (wrap64 ((wrap64 (x7_2 - a1)) - 1))) = (IntKind.u64.wrap (((rd_T32 l0 a1).f3)))
                    · rw [if_pos c12] at H
                      have c12b0 : ((IntKind.u64.wrap (wrap64 ((wrap64 (x7_2 - a1)) - 1))) == (IntKind.u64.wrap (((rd_T32 l0 a1).f3)))) = true := beq_iff_eq.mpr c12
                      have c12b1 : ((IntKind.u64.wrap (wrap64 ((wrap64 (x7_2 - a1)) - 1))) != (IntKind.u64.wrap (((rd_T32 l0 a1).f3)))) = false := bne_eq_false_iff_eq.mpr c12
                      clear c12
                      by_cases c13 : x5_2.length < 17592186044416
                      · rw [if_pos c13] at H
                        have LMc13 := Aside0.mk c13
                        clear c13
                        obtain ⟨y205, hy205⟩ : ∃ y_ : List Int, y_ = (x5_2 ++ [x7_2]) := ⟨_, rfl⟩
                        replace H : (fairleadref05_Next.l0 k2 l0 a1 y205 (wrap64 (x7_2 + 1)) ((rd_T32 l0 a1).f0) ((rd_T32 l0 a1).f1) ((rd_T32 l0 a1).f2) ((rd_T32 l0 a1).f3)) = some r := by first | (rw [hy205]; with_reducible exact H) | (have H2_ := (Option.bind_some _ _).symm.trans H; rw [hy205]; with_reducible exact H2_) | (have H2_ := (Option.bind_some _ _).symm.trans H; with_reducible exact H2_) | with_reducible exact H | (rw [hy205]; exact H) | exact H
                        have Ny205 := Aside0.mk hy205
                        clear hy205
                        have H' := Aside0.mk H
                        clear H
                        have hcz14_0 : wr.cell? ⟨gb204, 0, none⟩ = some (.int .u16 ((rd_T32 l0 a1).f0)) := (blk_cell BK204.out 0).trans rfl
                        have hcz14_1 : wr.cell? ⟨gb204, 1, none⟩ = some (.int .u8 ((rd_T32 l0 a1).f1)) := (blk_cell BK204.out 1).trans rfl
                        have hcz14_2 : wr.cell? ⟨gb204, 2, none⟩ = some (.int .u8 ((rd_T32 l0 a1).f2)) := (blk_cell BK204.out 2).trans rfl
                        have hcz14_3 : wr.cell? ⟨gb204, 3, none⟩ = some (.int .u32 ((rd_T32 l0 a1).f3)) := (blk_cell BK204.out 3).trans rfl
                        have hfz14_0 := blk_frozen BK204.out 0
                        have hfz14_1 := blk_frozen BK204.out 1
                        have hfz14_2 := blk_frozen BK204.out 2
                        have hfz14_3 := blk_frozen BK204.out 3
                        go_wp2_with (first | ((with_reducible refine gate_builtin (b := .append) (xs := #[.tmp 64, .tmp 66]) rfl ?_); (try (refine gate_guard (by rfl) ?_; dsimp only)); at_builtin; refine Kd.R_append (Kd.int .i64) (w0 := w) w.heap.size rfl (.tmp 64) (.tmp 66) 37 3 (.int .i64 0) 8 rfl Try.underlying37 info3 rfl (by decide) (by omega) u5 x5_2 x7_2 [.int .i64 x7_2] (fun _ => True) (fun _ => False) rfl rfl ?aP (fun _ hk => hk.elim) ?aF ?aO ?aB ?aS ?aL ?_; (case aP => exact rfl); (case aB => exact (by repeat (first | (with_reducible first | exact HB.out | apply below_alloc | apply pw_below_drewN | apply below_drew1 | refine below_set ?_ GE204.out) | exact HB.out))); (case aF => exact (fun _ _ => trivial)); (case aO => exact (by (with_reducible repeat (first | apply Kd.R_alloc | apply Kd.R_drewN | apply Kd.R_drew)); exact HO_5.out)); (case aS => exact (below_size (by repeat (first | (with_reducible first | exact HB.out | apply below_alloc | apply pw_below_drewN | apply below_drew1 | refine below_set ?_ GE204.out) | exact HB.out)))); (case aL => have := LMc13.out; omega); intro v206 w15 ho hb hg hat; rw [← Ny205.out] at ho; have n0_ := Aside0.mk (blk_grown (g := gb204) (o := .cells #[.int .u16 ((rd_T32 l0 a1).f0), .int .u8 ((rd_T32 l0 a1).f1), .int .u8 ((rd_T32 l0 a1).f2), .int .u32 ((rd_T32 l0 a1).f3)] 32 (0, 0)) (by (with_reducible repeat (first | refine blk_drewN ?_ _ | refine blk_drew ?_ | refine blk_alloc ?_ _)); exact BK204.out) hg (Kd.R_ne HO_5.out BK204.out (by decide))); have n1_ := Aside0.mk (hb); have n2_ := Aside0.mk (ho); clear BK204; clear HB; clear HO_5; have BK204 := n0_; have HB := n1_; have HO207 := n2_; clear n0_ n1_ n2_; clear ho hb hg hat))
                        go_roundg k2
                        case measure => have := HJ2.out; have := HK2.out; omega
                        case rel => exact ⟨(y205), (wrap64 (x7_2 + 1)), (by first | rfl | (simp; done) | (simp [*]; done)), H', ⟨by have := HJ2.out; have := HK2.out; omega⟩, ⟨by (with_reducible repeat (first | apply Kd.R_alloc | apply Kd.R_drewN | apply Kd.R_drew)); exact HO207.out⟩, ⟨by (with_reducible repeat (first | refine blk_drewN ?_ _ | refine blk_drew ?_ | refine blk_alloc ?_ _)); exact BK204.out⟩, ⟨by repeat (first | (with_reducible first | exact HB.out | apply below_alloc | apply pw_below_drewN | apply below_drew1 | refine below_set ?_ GE204.out) | exact HB.out)⟩⟩
                      · rw [if_neg c13] at H
                        exact absurd H (by simp)
                    · rw [if_neg c12] at H
                      have c12b0 : ((IntKind.u64.wrap (wrap64 ((wrap64 (x7_2 - a1)) - 1))) == (IntKind.u64.wrap (((rd_T32 l0 a1).f3)))) = false := beq_eq_false_iff_ne.mpr c12
                      have c12b1 : ((IntKind.u64.wrap (wrap64 ((wrap64 (x7_2 - a1)) - 1))) != (IntKind.u64.wrap (((rd_T32 l0 a1).f3)))) = true := bne_iff_ne.mpr c12
                      have H' := Aside0.mk H
                      clear H
                      have hcz16_0 : wr.cell? ⟨gb204, 0, none⟩ = some (.int .u16 ((rd_T32 l0 a1).f0)) := (blk_cell BK204.out 0).trans rfl
                      have hcz16_1 : wr.cell? ⟨gb204, 1, none⟩ = some (.int .u8 ((rd_T32 l0 a1).f1)) := (blk_cell BK204.out 1).trans rfl
                      have hcz16_2 : wr.cell? ⟨gb204, 2, none⟩ = some (.int .u8 ((rd_T32 l0 a1).f2)) := (blk_cell BK204.out 2).trans rfl
                      have hcz16_3 : wr.cell? ⟨gb204, 3, none⟩ = some (.int .u32 ((rd_T32 l0 a1).f3)) := (blk_cell BK204.out 3).trans rfl
                      have hfz16_0 := blk_frozen BK204.out 0
                      have hfz16_1 := blk_frozen BK204.out 1
                      have hfz16_2 := blk_frozen BK204.out 2
                      have hfz16_3 := blk_frozen BK204.out 3
                      go_wp2
                      go_roundg k2
                      case measure => have := HJ2.out; have := HK2.out; omega
                      case rel => exact ⟨(x5_2), (wrap64 (x7_2 + 1)), (by first | rfl | (simp; done) | (simp [*]; done)), H', ⟨by have := HJ2.out; have := HK2.out; omega⟩, ⟨by (with_reducible repeat (first | apply Kd.R_alloc | apply Kd.R_drewN | apply Kd.R_drew)); exact HO_5.out⟩, ⟨by (with_reducible repeat (first | refine blk_drewN ?_ _ | refine blk_drew ?_ | refine blk_alloc ?_ _)); exact BK204.out⟩, ⟨by repeat (first | (with_reducible first | exact HB.out | apply below_alloc | apply pw_below_drewN | apply below_drew1 | refine below_set ?_ GE204.out) | exact HB.out)⟩⟩
                  · rw [if_neg c11] at H
                    have c11b0 : (((rd_T32 l0 a1).f0) == 5) = false := beq_eq_false_iff_ne.mpr c11
                    have c11b1 : (((rd_T32 l0 a1).f0) != 5) = true := bne_iff_ne.mpr c11
                    replace H := Option.bind_eq_some_iff.mp H
                    obtain ⟨t208, A170, H⟩ := H
                    replace H : (if t208 = true then (if (IntKind.u64.wrap (wrap64 ((wrap64 (x7_2 - a1)) - 1))) = (IntKind.u64.wrap (((rd_T32 l0 a1).f1))) then (if x5_2.length < 17592186044416 then (fairleadref05_Next.l0 k2 l0 a1 (x5_2 ++ [x7_2]) (wrap64 (x7_2 + 1)) ((rd_T32 l0 a1).f0) ((rd_T32 l0 a1).f1) ((rd_T32 l0 a1).f2) ((rd_T32 l0 a1).f3)) else (none)) else (if (IntKind.u64.wrap (wrap64 ((wrap64 (x7_2 - a1)) - 1))) = (IntKind.u64.wrap (((rd_T32 l0 a1).f2))) then (if x5_2.length < 17592186044416 then (fairleadref05_Next.l0 k2 l0 a1 (x5_2 ++ [x7_2]) (wrap64 (x7_2 + 1)) ((rd_T32 l0 a1).f0) ((rd_T32 l0 a1).f1) ((rd_T32 l0 a1).f2) ((rd_T32 l0 a1).f3)) else (none)) else (fairleadref05_Next.l0 k2 l0 a1 x5_2 (wrap64 (x7_2 + 1)) ((rd_T32 l0 a1).f0) ((rd_T32 l0 a1).f1) ((rd_T32 l0 a1).f2) ((rd_T32 l0 a1).f3)))) else ((fairleadref03_Ends.f ((rd_T32 l0 a1).f0)).bind fun t215 => (if t215 = true then (fairleadref05_Next.l0 k2 l0 a1 x5_2 (wrap64 (x7_2 + 1)) ((rd_T32 l0 a1).f0) ((rd_T32 l0 a1).f1) ((rd_T32 l0 a1).f2) ((rd_T32 l0 a1).f3)) else (if (IntKind.u64.wrap (wrap64 ((wrap64 (x7_2 - a1)) - 1))) = 0 then (if x5_2.length < 17592186044416 then (fairleadref05_Next.l0 k2 l0 a1 (x5_2 ++ [x7_2]) (wrap64 (x7_2 + 1)) ((rd_T32 l0 a1).f0) ((rd_T32 l0 a1).f1) ((rd_T32 l0 a1).f2) ((rd_T32 l0 a1).f3)) else (none)) else (fairleadref05_Next.l0 k2 l0 a1 x5_2 (wrap64 (x7_2 + 1)) ((rd_T32 l0 a1).f0) ((rd_T32 l0 a1).f1) ((rd_T32 l0 a1).f2) ((rd_T32 l0 a1).f3)))))) = some r := H
                    have A17 := Aside0.mk A170
                    clear A170
                    by_cases c18 : t208 = true
                    · subst c18
                      have H1 : (if (IntKind.u64.wrap (wrap64 ((wrap64 (x7_2 - a1)) - 1))) = (IntKind.u64.wrap (((rd_T32 l0 a1).f1))) then (if x5_2.length < 17592186044416 then (fairleadref05_Next.l0 k2 l0 a1 (x5_2 ++ [x7_2]) (wrap64 (x7_2 + 1)) ((rd_T32 l0 a1).f0) ((rd_T32 l0 a1).f1) ((rd_T32 l0 a1).f2) ((rd_T32 l0 a1).f3)) else (none)) else (if (IntKind.u64.wrap (wrap64 ((wrap64 (x7_2 - a1)) - 1))) = (IntKind.u64.wrap (((rd_T32 l0 a1).f2))) then (if x5_2.length < 17592186044416 then (fairleadref05_Next.l0 k2 l0 a1 (x5_2 ++ [x7_2]) (wrap64 (x7_2 + 1)) ((rd_T32 l0 a1).f0) ((rd_T32 l0 a1).f1) ((rd_T32 l0 a1).f2) ((rd_T32 l0 a1).f3)) else (none)) else (fairleadref05_Next.l0 k2 l0 a1 x5_2 (wrap64 (x7_2 + 1)) ((rd_T32 l0 a1).f0) ((rd_T32 l0 a1).f1) ((rd_T32 l0 a1).f2) ((rd_T32 l0 a1).f3)))) = some r := by rw [if_pos rfl] at H; exact H
                      clear H
                      have H := H1
                      clear H1
                      by_cases c19 : (IntKind.u64.wrap (wrap64 ((wrap64 (x7_2 - a1)) - 1))) = (IntKind.u64.wrap (((rd_T32 l0 a1).f1)))
                      · rw [if_pos c19] at H
                        have c19b0 : ((IntKind.u64.wrap (wrap64 ((wrap64 (x7_2 - a1)) - 1))) == (IntKind.u64.wrap (((rd_T32 l0 a1).f1)))) = true := beq_iff_eq.mpr c19
                        have c19b1 : ((IntKind.u64.wrap (wrap64 ((wrap64 (x7_2 - a1)) - 1))) != (IntKind.u64.wrap (((rd_T32 l0 a1).f1)))) = false := bne_eq_false_iff_eq.mpr c19
                        clear c19
                        by_cases c20 : x5_2.length < 17592186044416
                        · rw [if_pos c20] at H
                          have LMc20 := Aside0.mk c20
                          clear c20
                          obtain ⟨y209, hy209⟩ : ∃ y_ : List Int, y_ = (x5_2 ++ [x7_2]) := ⟨_, rfl⟩
                          replace H : (fairleadref05_Next.l0 k2 l0 a1 y209 (wrap64 (x7_2 + 1)) ((rd_T32 l0 a1).f0) ((rd_T32 l0 a1).f1) ((rd_T32 l0 a1).f2) ((rd_T32 l0 a1).f3)) = some r := by first | (rw [hy209]; with_reducible exact H) | (have H2_ := (Option.bind_some _ _).symm.trans H; rw [hy209]; with_reducible exact H2_) | (have H2_ := (Option.bind_some _ _).symm.trans H; with_reducible exact H2_) | with_reducible exact H | (rw [hy209]; exact H) | exact H
                          have Ny209 := Aside0.mk hy209
                          clear hy209
                          have H' := Aside0.mk H
                          clear H
                          have hcz21_0 : wr.cell? ⟨gb204, 0, none⟩ = some (.int .u16 ((rd_T32 l0 a1).f0)) := (blk_cell BK204.out 0).trans rfl
                          have hcz21_1 : wr.cell? ⟨gb204, 1, none⟩ = some (.int .u8 ((rd_T32 l0 a1).f1)) := (blk_cell BK204.out 1).trans rfl
                          have hcz21_2 : wr.cell? ⟨gb204, 2, none⟩ = some (.int .u8 ((rd_T32 l0 a1).f2)) := (blk_cell BK204.out 2).trans rfl
                          have hcz21_3 : wr.cell? ⟨gb204, 3, none⟩ = some (.int .u32 ((rd_T32 l0 a1).f3)) := (blk_cell BK204.out 3).trans rfl
                          have hfz21_0 := blk_frozen BK204.out 0
                          have hfz21_1 := blk_frozen BK204.out 1
                          have hfz21_2 := blk_frozen BK204.out 2
                          have hfz21_3 := blk_frozen BK204.out 3
                          go_wp2_with (first | ((with_reducible refine gate_callee (f := 19) rfl ?_); refine goesL_ (some 47) rfl rfl Try.func19 (by kernel_rfl) rfl #[.int .u16 ((rd_T32 l0 a1).f0)] rfl (by (try simp only [List.map_toArray, List.map_cons, List.map_nil]); first | done | rfl | (simp only [List.length_drop, List.length_take]; rfl)) ?_; (with_reducible refine (fairleadref03_Jumps.calls ((rd_T32 l0 a1).f0) true _ A17.out).mono ?_); rintro e w' ⟨rfl, ⟨nd, rfl⟩⟩; refine ⟨_, rfl, ?_⟩) | ((with_reducible refine gate_builtin (b := .append) (xs := #[.tmp 64, .tmp 66]) rfl ?_); (try (refine gate_guard (by rfl) ?_; dsimp only)); at_builtin; refine Kd.R_append (Kd.int .i64) (w0 := w) w.heap.size rfl (.tmp 64) (.tmp 66) 37 3 (.int .i64 0) 8 rfl Try.underlying37 info3 rfl (by decide) (by omega) u5 x5_2 x7_2 [.int .i64 x7_2] (fun _ => True) (fun _ => False) rfl rfl ?aP (fun _ hk => hk.elim) ?aF ?aO ?aB ?aS ?aL ?_; (case aP => exact rfl); (case aB => exact (by repeat (first | (with_reducible first | exact HB.out | apply below_alloc | apply pw_below_drewN | apply below_drew1 | refine below_set ?_ GE204.out) | exact HB.out))); (case aF => exact (fun _ _ => trivial)); (case aO => exact (by (with_reducible repeat (first | apply Kd.R_alloc | apply Kd.R_drewN | apply Kd.R_drew)); exact HO_5.out)); (case aS => exact (below_size (by repeat (first | (with_reducible first | exact HB.out | apply below_alloc | apply pw_below_drewN | apply below_drew1 | refine below_set ?_ GE204.out) | exact HB.out)))); (case aL => have := LMc20.out; omega); intro v210 w22 ho hb hg hat; rw [← Ny209.out] at ho; have n0_ := Aside0.mk (blk_grown (g := gb204) (o := .cells #[.int .u16 ((rd_T32 l0 a1).f0), .int .u8 ((rd_T32 l0 a1).f1), .int .u8 ((rd_T32 l0 a1).f2), .int .u32 ((rd_T32 l0 a1).f3)] 32 (0, 0)) (by (with_reducible repeat (first | refine blk_drewN ?_ _ | refine blk_drew ?_ | refine blk_alloc ?_ _)); exact BK204.out) hg (Kd.R_ne HO_5.out BK204.out (by decide))); have n1_ := Aside0.mk (hb); have n2_ := Aside0.mk (ho); clear BK204; clear HB; clear HO_5; have BK204 := n0_; have HB := n1_; have HO211 := n2_; clear n0_ n1_ n2_; clear ho hb hg hat))
                          go_roundg k2
                          case measure => have := HJ2.out; have := HK2.out; omega
                          case rel => exact ⟨(y209), (wrap64 (x7_2 + 1)), (by first | rfl | (simp; done) | (simp [*]; done)), H', ⟨by have := HJ2.out; have := HK2.out; omega⟩, ⟨by (with_reducible repeat (first | apply Kd.R_alloc | apply Kd.R_drewN | apply Kd.R_drew)); exact HO211.out⟩, ⟨by (with_reducible repeat (first | refine blk_drewN ?_ _ | refine blk_drew ?_ | refine blk_alloc ?_ _)); exact BK204.out⟩, ⟨by repeat (first | (with_reducible first | exact HB.out | apply below_alloc | apply pw_below_drewN | apply below_drew1 | refine below_set ?_ GE204.out) | exact HB.out)⟩⟩
                        · rw [if_neg c20] at H
                          exact absurd H (by simp)
                      · rw [if_neg c19] at H
                        have c19b0 : ((IntKind.u64.wrap (wrap64 ((wrap64 (x7_2 - a1)) - 1))) == (IntKind.u64.wrap (((rd_T32 l0 a1).f1)))) = false := beq_eq_false_iff_ne.mpr c19
                        have c19b1 : ((IntKind.u64.wrap (wrap64 ((wrap64 (x7_2 - a1)) - 1))) != (IntKind.u64.wrap (((rd_T32 l0 a1).f1)))) = true := bne_iff_ne.mpr c19
                        by_cases c23 : (IntKind.u64.wrap (wrap64 ((wrap64 (x7_2 - a1)) - 1))) = (IntKind.u64.wrap (((rd_T32 l0 a1).f2)))
                        · rw [if_pos c23] at H
                          have c23b0 : ((IntKind.u64.wrap (wrap64 ((wrap64 (x7_2 - a1)) - 1))) == (IntKind.u64.wrap (((rd_T32 l0 a1).f2)))) = true := beq_iff_eq.mpr c23
                          have c23b1 : ((IntKind.u64.wrap (wrap64 ((wrap64 (x7_2 - a1)) - 1))) != (IntKind.u64.wrap (((rd_T32 l0 a1).f2)))) = false := bne_eq_false_iff_eq.mpr c23
                          clear c23
                          by_cases c24 : x5_2.length < 17592186044416
                          · rw [if_pos c24] at H
                            have LMc24 := Aside0.mk c24
                            clear c24
                            obtain ⟨y212, hy212⟩ : ∃ y_ : List Int, y_ = (x5_2 ++ [x7_2]) := ⟨_, rfl⟩
                            replace H : (fairleadref05_Next.l0 k2 l0 a1 y212 (wrap64 (x7_2 + 1)) ((rd_T32 l0 a1).f0) ((rd_T32 l0 a1).f1) ((rd_T32 l0 a1).f2) ((rd_T32 l0 a1).f3)) = some r := by first | (rw [hy212]; with_reducible exact H) | (have H2_ := (Option.bind_some _ _).symm.trans H; rw [hy212]; with_reducible exact H2_) | (have H2_ := (Option.bind_some _ _).symm.trans H; with_reducible exact H2_) | with_reducible exact H | (rw [hy212]; exact H) | exact H
                            have Ny212 := Aside0.mk hy212
                            clear hy212
                            have H' := Aside0.mk H
                            clear H
                            have hcz25_0 : wr.cell? ⟨gb204, 0, none⟩ = some (.int .u16 ((rd_T32 l0 a1).f0)) := (blk_cell BK204.out 0).trans rfl
                            have hcz25_1 : wr.cell? ⟨gb204, 1, none⟩ = some (.int .u8 ((rd_T32 l0 a1).f1)) := (blk_cell BK204.out 1).trans rfl
                            have hcz25_2 : wr.cell? ⟨gb204, 2, none⟩ = some (.int .u8 ((rd_T32 l0 a1).f2)) := (blk_cell BK204.out 2).trans rfl
                            have hcz25_3 : wr.cell? ⟨gb204, 3, none⟩ = some (.int .u32 ((rd_T32 l0 a1).f3)) := (blk_cell BK204.out 3).trans rfl
                            have hfz25_0 := blk_frozen BK204.out 0
                            have hfz25_1 := blk_frozen BK204.out 1
                            have hfz25_2 := blk_frozen BK204.out 2
                            have hfz25_3 := blk_frozen BK204.out 3
                            go_wp2_with (first | ((with_reducible refine gate_callee (f := 19) rfl ?_); refine goesL_ (some 47) rfl rfl Try.func19 (by kernel_rfl) rfl #[.int .u16 ((rd_T32 l0 a1).f0)] rfl (by (try simp only [List.map_toArray, List.map_cons, List.map_nil]); first | done | rfl | (simp only [List.length_drop, List.length_take]; rfl)) ?_; (with_reducible refine (fairleadref03_Jumps.calls ((rd_T32 l0 a1).f0) true _ A17.out).mono ?_); rintro e w' ⟨rfl, ⟨nd, rfl⟩⟩; refine ⟨_, rfl, ?_⟩) | ((with_reducible refine gate_builtin (b := .append) (xs := #[.tmp 64, .tmp 66]) rfl ?_); (try (refine gate_guard (by rfl) ?_; dsimp only)); at_builtin; refine Kd.R_append (Kd.int .i64) (w0 := w) w.heap.size rfl (.tmp 64) (.tmp 66) 37 3 (.int .i64 0) 8 rfl Try.underlying37 info3 rfl (by decide) (by omega) u5 x5_2 x7_2 [.int .i64 x7_2] (fun _ => True) (fun _ => False) rfl rfl ?aP (fun _ hk => hk.elim) ?aF ?aO ?aB ?aS ?aL ?_; (case aP => exact rfl); (case aB => exact (by repeat (first | (with_reducible first | exact HB.out | apply below_alloc | apply pw_below_drewN | apply below_drew1 | refine below_set ?_ GE204.out) | exact HB.out))); (case aF => exact (fun _ _ => trivial)); (case aO => exact (by (with_reducible repeat (first | apply Kd.R_alloc | apply Kd.R_drewN | apply Kd.R_drew)); exact HO_5.out)); (case aS => exact (below_size (by repeat (first | (with_reducible first | exact HB.out | apply below_alloc | apply pw_below_drewN | apply below_drew1 | refine below_set ?_ GE204.out) | exact HB.out)))); (case aL => have := LMc24.out; omega); intro v213 w26 ho hb hg hat; rw [← Ny212.out] at ho; have n0_ := Aside0.mk (blk_grown (g := gb204) (o := .cells #[.int .u16 ((rd_T32 l0 a1).f0), .int .u8 ((rd_T32 l0 a1).f1), .int .u8 ((rd_T32 l0 a1).f2), .int .u32 ((rd_T32 l0 a1).f3)] 32 (0, 0)) (by (with_reducible repeat (first | refine blk_drewN ?_ _ | refine blk_drew ?_ | refine blk_alloc ?_ _)); exact BK204.out) hg (Kd.R_ne HO_5.out BK204.out (by decide))); have n1_ := Aside0.mk (hb); have n2_ := Aside0.mk (ho); clear BK204; clear HB; clear HO_5; have BK204 := n0_; have HB := n1_; have HO214 := n2_; clear n0_ n1_ n2_; clear ho hb hg hat))
                            go_roundg k2
                            case measure => have := HJ2.out; have := HK2.out; omega
                            case rel => exact ⟨(y212), (wrap64 (x7_2 + 1)), (by first | rfl | (simp; done) | (simp [*]; done)), H', ⟨by have := HJ2.out; have := HK2.out; omega⟩, ⟨by (with_reducible repeat (first | apply Kd.R_alloc | apply Kd.R_drewN | apply Kd.R_drew)); exact HO214.out⟩, ⟨by (with_reducible repeat (first | refine blk_drewN ?_ _ | refine blk_drew ?_ | refine blk_alloc ?_ _)); exact BK204.out⟩, ⟨by repeat (first | (with_reducible first | exact HB.out | apply below_alloc | apply pw_below_drewN | apply below_drew1 | refine below_set ?_ GE204.out) | exact HB.out)⟩⟩
                          · rw [if_neg c24] at H
                            exact absurd H (by simp)
                        · rw [if_neg c23] at H
                          have c23b0 : ((IntKind.u64.wrap (wrap64 ((wrap64 (x7_2 - a1)) - 1))) == (IntKind.u64.wrap (((rd_T32 l0 a1).f2)))) = false := beq_eq_false_iff_ne.mpr c23
                          have c23b1 : ((IntKind.u64.wrap (wrap64 ((wrap64 (x7_2 - a1)) - 1))) != (IntKind.u64.wrap (((rd_T32 l0 a1).f2)))) = true := bne_iff_ne.mpr c23
                          have H' := Aside0.mk H
                          clear H
                          have hcz27_0 : wr.cell? ⟨gb204, 0, none⟩ = some (.int .u16 ((rd_T32 l0 a1).f0)) := (blk_cell BK204.out 0).trans rfl
                          have hcz27_1 : wr.cell? ⟨gb204, 1, none⟩ = some (.int .u8 ((rd_T32 l0 a1).f1)) := (blk_cell BK204.out 1).trans rfl
                          have hcz27_2 : wr.cell? ⟨gb204, 2, none⟩ = some (.int .u8 ((rd_T32 l0 a1).f2)) := (blk_cell BK204.out 2).trans rfl
                          have hcz27_3 : wr.cell? ⟨gb204, 3, none⟩ = some (.int .u32 ((rd_T32 l0 a1).f3)) := (blk_cell BK204.out 3).trans rfl
                          have hfz27_0 := blk_frozen BK204.out 0
                          have hfz27_1 := blk_frozen BK204.out 1
                          have hfz27_2 := blk_frozen BK204.out 2
                          have hfz27_3 := blk_frozen BK204.out 3
                          go_wp2_with (first | ((with_reducible refine gate_callee (f := 19) rfl ?_); refine goesL_ (some 47) rfl rfl Try.func19 (by kernel_rfl) rfl #[.int .u16 ((rd_T32 l0 a1).f0)] rfl (by (try simp only [List.map_toArray, List.map_cons, List.map_nil]); first | done | rfl | (simp only [List.length_drop, List.length_take]; rfl)) ?_; (with_reducible refine (fairleadref03_Jumps.calls ((rd_T32 l0 a1).f0) true _ A17.out).mono ?_); rintro e w' ⟨rfl, ⟨nd, rfl⟩⟩; refine ⟨_, rfl, ?_⟩))
                          go_roundg k2
                          case measure => have := HJ2.out; have := HK2.out; omega
                          case rel => exact ⟨(x5_2), (wrap64 (x7_2 + 1)), (by first | rfl | (simp; done) | (simp [*]; done)), H', ⟨by have := HJ2.out; have := HK2.out; omega⟩, ⟨by (with_reducible repeat (first | apply Kd.R_alloc | apply Kd.R_drewN | apply Kd.R_drew)); exact HO_5.out⟩, ⟨by (with_reducible repeat (first | refine blk_drewN ?_ _ | refine blk_drew ?_ | refine blk_alloc ?_ _)); exact BK204.out⟩, ⟨by repeat (first | (with_reducible first | exact HB.out | apply below_alloc | apply pw_below_drewN | apply below_drew1 | refine below_set ?_ GE204.out) | exact HB.out)⟩⟩
                    · replace c18 := Bool.eq_false_iff.mpr c18
                      subst c18
                      have H1 : ((fairleadref03_Ends.f ((rd_T32 l0 a1).f0)).bind fun t215 => (if t215 = true then (fairleadref05_Next.l0 k2 l0 a1 x5_2 (wrap64 (x7_2 + 1)) ((rd_T32 l0 a1).f0) ((rd_T32 l0 a1).f1) ((rd_T32 l0 a1).f2) ((rd_T32 l0 a1).f3)) else (if (IntKind.u64.wrap (wrap64 ((wrap64 (x7_2 - a1)) - 1))) = 0 then (if x5_2.length < 17592186044416 then (fairleadref05_Next.l0 k2 l0 a1 (x5_2 ++ [x7_2]) (wrap64 (x7_2 + 1)) ((rd_T32 l0 a1).f0) ((rd_T32 l0 a1).f1) ((rd_T32 l0 a1).f2) ((rd_T32 l0 a1).f3)) else (none)) else (fairleadref05_Next.l0 k2 l0 a1 x5_2 (wrap64 (x7_2 + 1)) ((rd_T32 l0 a1).f0) ((rd_T32 l0 a1).f1) ((rd_T32 l0 a1).f2) ((rd_T32 l0 a1).f3))))) = some r := by rw [if_neg (show ¬ (false = true) by decide)] at H; exact H
                      clear H
                      have H := H1
                      clear H1
                      replace H := Option.bind_eq_some_iff.mp H
                      obtain ⟨t215, A280, H⟩ := H
                      replace H : (if t215 = true then (fairleadref05_Next.l0 k2 l0 a1 x5_2 (wrap64 (x7_2 + 1)) ((rd_T32 l0 a1).f0) ((rd_T32 l0 a1).f1) ((rd_T32 l0 a1).f2) ((rd_T32 l0 a1).f3)) else (if (IntKind.u64.wrap (wrap64 ((wrap64 (x7_2 - a1)) - 1))) = 0 then (if x5_2.length < 17592186044416 then (fairleadref05_Next.l0 k2 l0 a1 (x5_2 ++ [x7_2]) (wrap64 (x7_2 + 1)) ((rd_T32 l0 a1).f0) ((rd_T32 l0 a1).f1) ((rd_T32 l0 a1).f2) ((rd_T32 l0 a1).f3)) else (none)) else (fairleadref05_Next.l0 k2 l0 a1 x5_2 (wrap64 (x7_2 + 1)) ((rd_T32 l0 a1).f0) ((rd_T32 l0 a1).f1) ((rd_T32 l0 a1).f2) ((rd_T32 l0 a1).f3)))) = some r := H
                      have A28 := Aside0.mk A280
                      clear A280
                      by_cases c29 : t215 = true
                      · subst c29
                        have H1 : (fairleadref05_Next.l0 k2 l0 a1 x5_2 (wrap64 (x7_2 + 1)) ((rd_T32 l0 a1).f0) ((rd_T32 l0 a1).f1) ((rd_T32 l0 a1).f2) ((rd_T32 l0 a1).f3)) = some r := by rw [if_pos rfl] at H; exact H
                        clear H
                        have H := H1
                        clear H1
                        have H' := Aside0.mk H
                        clear H
                        have hcz30_0 : wr.cell? ⟨gb204, 0, none⟩ = some (.int .u16 ((rd_T32 l0 a1).f0)) := (blk_cell BK204.out 0).trans rfl
                        have hcz30_1 : wr.cell? ⟨gb204, 1, none⟩ = some (.int .u8 ((rd_T32 l0 a1).f1)) := (blk_cell BK204.out 1).trans rfl
                        have hcz30_2 : wr.cell? ⟨gb204, 2, none⟩ = some (.int .u8 ((rd_T32 l0 a1).f2)) := (blk_cell BK204.out 2).trans rfl
                        have hcz30_3 : wr.cell? ⟨gb204, 3, none⟩ = some (.int .u32 ((rd_T32 l0 a1).f3)) := (blk_cell BK204.out 3).trans rfl
                        have hfz30_0 := blk_frozen BK204.out 0
                        have hfz30_1 := blk_frozen BK204.out 1
                        have hfz30_2 := blk_frozen BK204.out 2
                        have hfz30_3 := blk_frozen BK204.out 3
                        go_wp2_with (first | ((with_reducible refine gate_callee (f := 19) rfl ?_); refine goesL_ (some 47) rfl rfl Try.func19 (by kernel_rfl) rfl #[.int .u16 ((rd_T32 l0 a1).f0)] rfl (by (try simp only [List.map_toArray, List.map_cons, List.map_nil]); first | done | rfl | (simp only [List.length_drop, List.length_take]; rfl)) ?_; (with_reducible refine (fairleadref03_Jumps.calls ((rd_T32 l0 a1).f0) false _ A17.out).mono ?_); rintro e w' ⟨rfl, ⟨nd, rfl⟩⟩; refine ⟨_, rfl, ?_⟩) | ((with_reducible refine gate_callee (f := 20) rfl ?_); refine goesL_ (some 62) rfl rfl Try.func20 (by kernel_rfl) rfl #[.int .u16 ((rd_T32 l0 a1).f0)] rfl (by (try simp only [List.map_toArray, List.map_cons, List.map_nil]); first | done | rfl | (simp only [List.length_drop, List.length_take]; rfl)) ?_; (with_reducible refine (fairleadref03_Ends.calls ((rd_T32 l0 a1).f0) true _ A28.out).mono ?_); rintro e w' ⟨rfl, ⟨nd, rfl⟩⟩; refine ⟨_, rfl, ?_⟩))
                        go_roundg k2
                        case measure => have := HJ2.out; have := HK2.out; omega
                        case rel => exact ⟨(x5_2), (wrap64 (x7_2 + 1)), (by first | rfl | (simp; done) | (simp [*]; done)), H', ⟨by have := HJ2.out; have := HK2.out; omega⟩, ⟨by (with_reducible repeat (first | apply Kd.R_alloc | apply Kd.R_drewN | apply Kd.R_drew)); exact HO_5.out⟩, ⟨by (with_reducible repeat (first | refine blk_drewN ?_ _ | refine blk_drew ?_ | refine blk_alloc ?_ _)); exact BK204.out⟩, ⟨by repeat (first | (with_reducible first | exact HB.out | apply below_alloc | apply pw_below_drewN | apply below_drew1 | refine below_set ?_ GE204.out) | exact HB.out)⟩⟩
                      · replace c29 := Bool.eq_false_iff.mpr c29
                        subst c29
                        have H1 : (if (IntKind.u64.wrap (wrap64 ((wrap64 (x7_2 - a1)) - 1))) = 0 then (if x5_2.length < 17592186044416 then (fairleadref05_Next.l0 k2 l0 a1 (x5_2 ++ [x7_2]) (wrap64 (x7_2 + 1)) ((rd_T32 l0 a1).f0) ((rd_T32 l0 a1).f1) ((rd_T32 l0 a1).f2) ((rd_T32 l0 a1).f3)) else (none)) else (fairleadref05_Next.l0 k2 l0 a1 x5_2 (wrap64 (x7_2 + 1)) ((rd_T32 l0 a1).f0) ((rd_T32 l0 a1).f1) ((rd_T32 l0 a1).f2) ((rd_T32 l0 a1).f3))) = some r := by rw [if_neg (show ¬ (false = true) by decide)] at H; exact H
                        clear H
                        have H := H1
                        clear H1
                        by_cases c31 : (IntKind.u64.wrap (wrap64 ((wrap64 (x7_2 - a1)) - 1))) = 0
                        · rw [if_pos c31] at H
                          have c31b0 : ((IntKind.u64.wrap (wrap64 ((wrap64 (x7_2 - a1)) - 1))) == 0) = true := beq_iff_eq.mpr c31
                          have c31b1 : ((IntKind.u64.wrap (wrap64 ((wrap64 (x7_2 - a1)) - 1))) != 0) = false := bne_eq_false_iff_eq.mpr c31
                          clear c31
                          by_cases c32 : x5_2.length < 17592186044416
                          · rw [if_pos c32] at H
                            have LMc32 := Aside0.mk c32
                            clear c32
                            obtain ⟨y216, hy216⟩ : ∃ y_ : List Int, y_ = (x5_2 ++ [x7_2]) := ⟨_, rfl⟩
                            replace H : (fairleadref05_Next.l0 k2 l0 a1 y216 (wrap64 (x7_2 + 1)) ((rd_T32 l0 a1).f0) ((rd_T32 l0 a1).f1) ((rd_T32 l0 a1).f2) ((rd_T32 l0 a1).f3)) = some r := by first | (rw [hy216]; with_reducible exact H) | (have H2_ := (Option.bind_some _ _).symm.trans H; rw [hy216]; with_reducible exact H2_) | (have H2_ := (Option.bind_some _ _).symm.trans H; with_reducible exact H2_) | with_reducible exact H | (rw [hy216]; exact H) | exact H
                            have Ny216 := Aside0.mk hy216
                            clear hy216
                            have H' := Aside0.mk H
                            clear H
                            have hcz33_0 : wr.cell? ⟨gb204, 0, none⟩ = some (.int .u16 ((rd_T32 l0 a1).f0)) := (blk_cell BK204.out 0).trans rfl
                            have hcz33_1 : wr.cell? ⟨gb204, 1, none⟩ = some (.int .u8 ((rd_T32 l0 a1).f1)) := (blk_cell BK204.out 1).trans rfl
                            have hcz33_2 : wr.cell? ⟨gb204, 2, none⟩ = some (.int .u8 ((rd_T32 l0 a1).f2)) := (blk_cell BK204.out 2).trans rfl
                            have hcz33_3 : wr.cell? ⟨gb204, 3, none⟩ = some (.int .u32 ((rd_T32 l0 a1).f3)) := (blk_cell BK204.out 3).trans rfl
                            have hfz33_0 := blk_frozen BK204.out 0
                            have hfz33_1 := blk_frozen BK204.out 1
                            have hfz33_2 := blk_frozen BK204.out 2
                            have hfz33_3 := blk_frozen BK204.out 3
                            go_wp2_with (first | ((with_reducible refine gate_callee (f := 19) rfl ?_); refine goesL_ (some 47) rfl rfl Try.func19 (by kernel_rfl) rfl #[.int .u16 ((rd_T32 l0 a1).f0)] rfl (by (try simp only [List.map_toArray, List.map_cons, List.map_nil]); first | done | rfl | (simp only [List.length_drop, List.length_take]; rfl)) ?_; (with_reducible refine (fairleadref03_Jumps.calls ((rd_T32 l0 a1).f0) false _ A17.out).mono ?_); rintro e w' ⟨rfl, ⟨nd, rfl⟩⟩; refine ⟨_, rfl, ?_⟩) | ((with_reducible refine gate_callee (f := 20) rfl ?_); refine goesL_ (some 62) rfl rfl Try.func20 (by kernel_rfl) rfl #[.int .u16 ((rd_T32 l0 a1).f0)] rfl (by (try simp only [List.map_toArray, List.map_cons, List.map_nil]); first | done | rfl | (simp only [List.length_drop, List.length_take]; rfl)) ?_; (with_reducible refine (fairleadref03_Ends.calls ((rd_T32 l0 a1).f0) false _ A28.out).mono ?_); rintro e w' ⟨rfl, ⟨nd, rfl⟩⟩; refine ⟨_, rfl, ?_⟩) | ((with_reducible refine gate_builtin (b := .append) (xs := #[.tmp 64, .tmp 66]) rfl ?_); (try (refine gate_guard (by rfl) ?_; dsimp only)); at_builtin; refine Kd.R_append (Kd.int .i64) (w0 := w) w.heap.size rfl (.tmp 64) (.tmp 66) 37 3 (.int .i64 0) 8 rfl Try.underlying37 info3 rfl (by decide) (by omega) u5 x5_2 x7_2 [.int .i64 x7_2] (fun _ => True) (fun _ => False) rfl rfl ?aP (fun _ hk => hk.elim) ?aF ?aO ?aB ?aS ?aL ?_; (case aP => exact rfl); (case aB => exact (by repeat (first | (with_reducible first | exact HB.out | apply below_alloc | apply pw_below_drewN | apply below_drew1 | refine below_set ?_ GE204.out) | exact HB.out))); (case aF => exact (fun _ _ => trivial)); (case aO => exact (by (with_reducible repeat (first | apply Kd.R_alloc | apply Kd.R_drewN | apply Kd.R_drew)); exact HO_5.out)); (case aS => exact (below_size (by repeat (first | (with_reducible first | exact HB.out | apply below_alloc | apply pw_below_drewN | apply below_drew1 | refine below_set ?_ GE204.out) | exact HB.out)))); (case aL => have := LMc32.out; omega); intro v217 w34 ho hb hg hat; rw [← Ny216.out] at ho; have n0_ := Aside0.mk (blk_grown (g := gb204) (o := .cells #[.int .u16 ((rd_T32 l0 a1).f0), .int .u8 ((rd_T32 l0 a1).f1), .int .u8 ((rd_T32 l0 a1).f2), .int .u32 ((rd_T32 l0 a1).f3)] 32 (0, 0)) (by (with_reducible repeat (first | refine blk_drewN ?_ _ | refine blk_drew ?_ | refine blk_alloc ?_ _)); exact BK204.out) hg (Kd.R_ne HO_5.out BK204.out (by decide))); have n1_ := Aside0.mk (hb); have n2_ := Aside0.mk (ho); clear BK204; clear HB; clear HO_5; have BK204 := n0_; have HB := n1_; have HO218 := n2_; clear n0_ n1_ n2_; clear ho hb hg hat))
                            go_roundg k2
                            case measure => have := HJ2.out; have := HK2.out; omega
                            case rel => exact ⟨(y216), (wrap64 (x7_2 + 1)), (by first | rfl | (simp; done) | (simp [*]; done)), H', ⟨by have := HJ2.out; have := HK2.out; omega⟩, ⟨by (with_reducible repeat (first | apply Kd.R_alloc | apply Kd.R_drewN | apply Kd.R_drew)); exact HO218.out⟩, ⟨by (with_reducible repeat (first | refine blk_drewN ?_ _ | refine blk_drew ?_ | refine blk_alloc ?_ _)); exact BK204.out⟩, ⟨by repeat (first | (with_reducible first | exact HB.out | apply below_alloc | apply pw_below_drewN | apply below_drew1 | refine below_set ?_ GE204.out) | exact HB.out)⟩⟩
                          · rw [if_neg c32] at H
                            exact absurd H (by simp)
                        · rw [if_neg c31] at H
                          have c31b0 : ((IntKind.u64.wrap (wrap64 ((wrap64 (x7_2 - a1)) - 1))) == 0) = false := beq_eq_false_iff_ne.mpr c31
                          have c31b1 : ((IntKind.u64.wrap (wrap64 ((wrap64 (x7_2 - a1)) - 1))) != 0) = true := bne_iff_ne.mpr c31
                          have H' := Aside0.mk H
                          clear H
                          have hcz35_0 : wr.cell? ⟨gb204, 0, none⟩ = some (.int .u16 ((rd_T32 l0 a1).f0)) := (blk_cell BK204.out 0).trans rfl
                          have hcz35_1 : wr.cell? ⟨gb204, 1, none⟩ = some (.int .u8 ((rd_T32 l0 a1).f1)) := (blk_cell BK204.out 1).trans rfl
                          have hcz35_2 : wr.cell? ⟨gb204, 2, none⟩ = some (.int .u8 ((rd_T32 l0 a1).f2)) := (blk_cell BK204.out 2).trans rfl
                          have hcz35_3 : wr.cell? ⟨gb204, 3, none⟩ = some (.int .u32 ((rd_T32 l0 a1).f3)) := (blk_cell BK204.out 3).trans rfl
                          have hfz35_0 := blk_frozen BK204.out 0
                          have hfz35_1 := blk_frozen BK204.out 1
                          have hfz35_2 := blk_frozen BK204.out 2
                          have hfz35_3 := blk_frozen BK204.out 3
                          go_wp2_with (first | ((with_reducible refine gate_callee (f := 19) rfl ?_); refine goesL_ (some 47) rfl rfl Try.func19 (by kernel_rfl) rfl #[.int .u16 ((rd_T32 l0 a1).f0)] rfl (by (try simp only [List.map_toArray, List.map_cons, List.map_nil]); first | done | rfl | (simp only [List.length_drop, List.length_take]; rfl)) ?_; (with_reducible refine (fairleadref03_Jumps.calls ((rd_T32 l0 a1).f0) false _ A17.out).mono ?_); rintro e w' ⟨rfl, ⟨nd, rfl⟩⟩; refine ⟨_, rfl, ?_⟩) | ((with_reducible refine gate_callee (f := 20) rfl ?_); refine goesL_ (some 62) rfl rfl Try.func20 (by kernel_rfl) rfl #[.int .u16 ((rd_T32 l0 a1).f0)] rfl (by (try simp only [List.map_toArray, List.map_cons, List.map_nil]); first | done | rfl | (simp only [List.length_drop, List.length_take]; rfl)) ?_; (with_reducible refine (fairleadref03_Ends.calls ((rd_T32 l0 a1).f0) false _ A28.out).mono ?_); rintro e w' ⟨rfl, ⟨nd, rfl⟩⟩; refine ⟨_, rfl, ?_⟩))
                          go_roundg k2
                          case measure => have := HJ2.out; have := HK2.out; omega
                          case rel => exact ⟨(x5_2), (wrap64 (x7_2 + 1)), (by first | rfl | (simp; done) | (simp [*]; done)), H', ⟨by have := HJ2.out; have := HK2.out; omega⟩, ⟨by (with_reducible repeat (first | apply Kd.R_alloc | apply Kd.R_drewN | apply Kd.R_drew)); exact HO_5.out⟩, ⟨by (with_reducible repeat (first | refine blk_drewN ?_ _ | refine blk_drew ?_ | refine blk_alloc ?_ _)); exact BK204.out⟩, ⟨by repeat (first | (with_reducible first | exact HB.out | apply below_alloc | apply pw_below_drewN | apply below_drew1 | refine below_set ?_ GE204.out) | exact HB.out)⟩⟩
                · rw [if_neg c10] at H
                  have c10b0 : decide (x7_2 < (l0.length : Int)) = false := decide_eq_false c10
                  clear c10
                  obtain rfl := Option.some.inj H
                  go_wp2
                  go_ret
                  exact ⟨_, by first | rfl | (simp [errW_none, errW_some] <;> rfl) | (simp [*, errW_none, errW_some] <;> rfl), by (with_reducible repeat (first | apply Kd.R_alloc | apply Kd.R_drewN | apply Kd.R_drew)); exact HO_5.out, by repeat (first | (with_reducible first | exact HB.out | apply below_alloc | apply pw_below_drewN | apply below_drew1 | refine below_set ?_ GE204.out) | exact HB.out)⟩
          · rw [if_neg c7] at H
            exact absurd H (by simp)
        · rw [if_neg c6] at H
          exact absurd H (by simp)

/-! ### fairleadlaw05_CheckNext: function 7 -/
def fairleadlaw05_CheckNext.f (k : Nat) (l0 : List (S32)) (a1 : Int) : Option (Bool) := (fairleadlaw05_awake.f k).bind fun t219 => (if (l0.length : Int) > 4096 then (some t219) else ((check_Next.f k l0 a1).bind fun t220 => ((fairleadref05_Next.f k l0 a1).bind fun t223 => ((fairleadref05_SameInts.f k t220 t223).bind fun t226 => (if t219 = true then (some t226) else (some false))))))
theorem fairleadlaw05_CheckNext.mono : ∀ a0 a1 k, LeO (fairleadlaw05_CheckNext.f k a0 a1) (fairleadlaw05_CheckNext.f (k + 1) a0 a1) := by
  intro a0 a1 k
  unfold fairleadlaw05_CheckNext.f
  repeat' first
      | (with_reducible exact check_Next.mono _ _ _)
      | (with_reducible exact fairleadlaw05_awake.mono _)
      | (with_reducible exact fairleadref05_Next.mono _ _ _)
      | (with_reducible exact fairleadref05_SameInts.mono _ _ _)
      | (with_reducible exact LeO.refl _)
      | (with_reducible exact LeO.none _)
      | (with_reducible refine LeO.ite ?_ ?_)
      | (with_reducible refine LeO.bind ?_ (fun _ => ?_))
      | exact check_Next.mono _ _ _
      | exact fairleadlaw05_awake.mono _
      | exact fairleadref05_Next.mono _ _ _
      | exact fairleadref05_SameInts.mono _ _ _
      | exact LeO.none _
      | refine LeO.ite ?_ ?_
      | refine LeO.bind ?_ (fun _ => ?_)
set_option maxHeartbeats 8000000 in
set_option maxRecDepth 100000 in
theorem fairleadlaw05_CheckNext.calls (k : Nat) (A0 : Option Addr) (c0 : Nat) (l0 : List (S32)) (a1 : Int) (r : Bool) (w : World) (hr0 : Kd.C k32 w A0 l0.length l0) (hc0 : l0.length ≤ c0) (h : fairleadlaw05_CheckNext.f k l0 a1 = some r) :
    Calls Try.prog 7 #[.slice A0 l0.length c0, .int .i64 a1] w fun e w' => e = .returned (.bool r) ∧ Below w.heap.size w w' := by
  have HR0 := Aside0.mk hr0
  have HC0 := Aside0.mk hc0
  clear hr0 hc0
  have HB := Aside0.mk (Below.refl w.heap.size w)
  have H : ((fairleadlaw05_awake.f k).bind fun t219 => (if (l0.length : Int) > 4096 then (some t219) else ((check_Next.f k l0 a1).bind fun t220 => ((fairleadref05_Next.f k l0 a1).bind fun t223 => ((fairleadref05_SameInts.f k t220 t223).bind fun t226 => (if t219 = true then (some t226) else (some false))))))) = some r := h
  clear h
  replace H := Option.bind_eq_some_iff.mp H
  obtain ⟨t219, A30, H⟩ := H
  replace H : (if (l0.length : Int) > 4096 then (some t219) else ((check_Next.f k l0 a1).bind fun t220 => ((fairleadref05_Next.f k l0 a1).bind fun t223 => ((fairleadref05_SameInts.f k t220 t223).bind fun t226 => (if t219 = true then (some t226) else (some false)))))) = some r := H
  have A3 := Aside0.mk A30
  clear A30
  by_cases c4 : (l0.length : Int) > 4096
  · rw [if_pos c4] at H
    have c4b0 : decide (4096 < (l0.length : Int)) = true := decide_eq_true c4
    have c4b1 : decide (4096 < l0.length) = true := decide_eq_true (by omega)
    clear c4
    obtain rfl := Option.some.inj H
    go_enter Try.func7, Try.ntmps7
    go_wp2_with (first | ((with_reducible refine gate_callee (f := 9) rfl ?_); refine goesL_ (some 7) rfl rfl Try.func9 (by kernel_rfl) rfl #[] rfl (by (try simp only [List.map_toArray, List.map_cons, List.map_nil]); first | done | rfl | (simp only [List.length_drop, List.length_take]; rfl)) ?_; (with_reducible refine (fairleadlaw05_awake.calls k  t219 _ A3.out).mono ?_); rintro e w5 ⟨rfl, hb⟩; refine ⟨_, rfl, ?_⟩; have n0_ := Aside0.mk (below_step (by repeat (first | (with_reducible first | exact HB.out | apply below_alloc | apply pw_below_drewN | apply below_drew1) | exact HB.out)) hb); clear HB; have HB := n0_; clear n0_; (try clear hb); (try clear hb2); (try clear hk); (try clear hi)))
    go_ret
    exact ⟨by first | rfl | (simp [errW_none, errW_some] <;> rfl) | (simp [*, errW_none, errW_some] <;> rfl), by repeat (first | (with_reducible first | exact HB.out | apply below_alloc | apply pw_below_drewN | apply below_drew1) | exact HB.out)⟩
  · rw [if_neg c4] at H
    have c4b0 : decide (4096 < (l0.length : Int)) = false := decide_eq_false c4
    have c4b1 : decide (4096 < l0.length) = false := decide_eq_false (by omega)
    clear c4
    replace H := Option.bind_eq_some_iff.mp H
    obtain ⟨t220, A60, H⟩ := H
    replace H : ((fairleadref05_Next.f k l0 a1).bind fun t223 => ((fairleadref05_SameInts.f k t220 t223).bind fun t226 => (if t219 = true then (some t226) else (some false)))) = some r := H
    have A6 := Aside0.mk A60
    clear A60
    replace H := Option.bind_eq_some_iff.mp H
    obtain ⟨t223, A70, H⟩ := H
    replace H : ((fairleadref05_SameInts.f k t220 t223).bind fun t226 => (if t219 = true then (some t226) else (some false))) = some r := H
    have A7 := Aside0.mk A70
    clear A70
    replace H := Option.bind_eq_some_iff.mp H
    obtain ⟨t226, A80, H⟩ := H
    replace H : (if t219 = true then (some t226) else (some false)) = some r := H
    have A8 := Aside0.mk A80
    clear A80
    by_cases c9 : t219 = true
    · subst c9
      have H1 : (some t226) = some r := by rw [if_pos rfl] at H; exact H
      clear H
      have H := H1
      clear H1
      obtain rfl := Option.some.inj H
      go_enter Try.func7, Try.ntmps7
      go_wp2_with (first | ((with_reducible refine gate_callee (f := 9) rfl ?_); refine goesL_ (some 7) rfl rfl Try.func9 (by kernel_rfl) rfl #[] rfl (by (try simp only [List.map_toArray, List.map_cons, List.map_nil]); first | done | rfl | (simp only [List.length_drop, List.length_take]; rfl)) ?_; (with_reducible refine (fairleadlaw05_awake.calls k  true _ A3.out).mono ?_); rintro e w10 ⟨rfl, hb⟩; refine ⟨_, rfl, ?_⟩; have n0_ := Aside0.mk (below_step (by repeat (first | (with_reducible first | exact HB.out | apply below_alloc | apply pw_below_drewN | apply below_drew1) | exact HB.out)) hb); clear HB; have HB := n0_; clear n0_; (try clear hb); (try clear hb2); (try clear hk); (try clear hi)) | ((with_reducible refine gate_callee (f := 13) rfl ?_); refine goesL_ (some 14) rfl rfl Try.func13 (by kernel_rfl) rfl #[.slice A0 l0.length c0, .int .i64 a1] rfl (by (try simp only [List.map_toArray, List.map_cons, List.map_nil]); first | done | rfl | (simp only [List.length_drop, List.length_take]; rfl)) ?_; (with_reducible refine (check_Next.calls k _ _ l0 a1 t220 _ ?side1 ?side2 A6.out).mono ?_); (case side1 => repeat (first | exact (Kd.C_below HR0.out HB.out) | (with_reducible refine Kd.C_alloc ?_ _) | (with_reducible refine Kd.C_drewN ?_ _) | (with_reducible refine Kd.C_drew ?_))); (case side2 => exact HC0.out); rintro e w11 ⟨v221, rfl, ho0, hb⟩; refine ⟨_, rfl, ?_⟩; have n0_ := Aside0.mk (Kd.R_lower ho0 (below_size (by repeat (first | (with_reducible first | exact HB.out | apply below_alloc | apply pw_below_drewN | apply below_drew1) | exact HB.out)))); have n1_ := Aside0.mk (below_step (by repeat (first | (with_reducible first | exact HB.out | apply below_alloc | apply pw_below_drewN | apply below_drew1) | exact HB.out)) hb); clear HB; have HO222 := n0_; have HB := n1_; clear n0_ n1_; (try clear hb); (try clear hb2); (try clear hk); (try clear hi); (try clear ho0)) | ((with_reducible refine gate_callee (f := 14) rfl ?_); refine goesL_ (some 17) rfl rfl Try.func14 (by kernel_rfl) rfl #[.slice A0 l0.length c0, .int .i64 a1] rfl (by (try simp only [List.map_toArray, List.map_cons, List.map_nil]); first | done | rfl | (simp only [List.length_drop, List.length_take]; rfl)) ?_; (with_reducible refine (fairleadref05_Next.calls k _ _ l0 a1 t223 _ ?side1 ?side2 A7.out).mono ?_); (case side1 => repeat (first | exact (Kd.C_below HR0.out HB.out) | (with_reducible refine Kd.C_alloc ?_ _) | (with_reducible refine Kd.C_drewN ?_ _) | (with_reducible refine Kd.C_drew ?_))); (case side2 => exact HC0.out); rintro e w12 ⟨v224, rfl, ho0, hb⟩; refine ⟨_, rfl, ?_⟩; have n0_ := Aside0.mk (Kd.R_elder' (by (with_reducible repeat (first | apply Kd.R_alloc | apply Kd.R_drewN | apply Kd.R_drew)); exact HO222.out) (Kd.R_base ho0) hb); have n1_ := Aside0.mk (Kd.R_lower (Kd.R_new' ho0 (Kd.R_lt (by (with_reducible repeat (first | apply Kd.R_alloc | apply Kd.R_drewN | apply Kd.R_drew)); exact HO222.out))) (below_size (by repeat (first | (with_reducible first | exact HB.out | apply below_alloc | apply pw_below_drewN | apply below_drew1) | exact HB.out)))); have n2_ := Aside0.mk (below_step (by repeat (first | (with_reducible first | exact HB.out | apply below_alloc | apply pw_below_drewN | apply below_drew1) | exact HB.out)) hb); clear HO222; clear HB; have HO222 := n0_; have HO225 := n1_; have HB := n2_; clear n0_ n1_ n2_; (try clear hb); (try clear hb2); (try clear hk); (try clear hi); (try clear ho0); obtain ⟨Ao13, co13, eo13⟩ := Kd.R_slice HO222.out; subst eo13; obtain ⟨Ao14, co14, eo14⟩ := Kd.R_slice HO225.out; subst eo14) | ((with_reducible refine gate_callee (f := 12) rfl ?_); refine goesL_ (some 18) rfl rfl Try.func12 (by kernel_rfl) rfl #[.slice Ao13 t220.length co13, .slice Ao14 t223.length co14] rfl (by (try simp only [List.map_toArray, List.map_cons, List.map_nil]); first | done | rfl | (simp only [List.length_drop, List.length_take]; rfl)) ?_; (with_reducible refine (fairleadref05_SameInts.calls k _ _ t220 _ _ t223 t226 _ ?side1 ?side2 ?side3 ?side4 A8.out).mono ?_); (case side1 => repeat (first | exact (Kd.R_reads' HO222.out).2.2 | (with_reducible refine Kd.C_alloc ?_ _) | (with_reducible refine Kd.C_drewN ?_ _) | (with_reducible refine Kd.C_drew ?_))); (case side2 => exact (Kd.R_reads' HO222.out).2.1); (case side3 => repeat (first | exact (Kd.R_reads' HO225.out).2.2 | (with_reducible refine Kd.C_alloc ?_ _) | (with_reducible refine Kd.C_drewN ?_ _) | (with_reducible refine Kd.C_drew ?_))); (case side4 => exact (Kd.R_reads' HO225.out).2.1); rintro e w' ⟨rfl, ⟨nd, rfl⟩⟩; refine ⟨_, rfl, ?_⟩))
      go_ret
      exact ⟨by first | rfl | (simp [errW_none, errW_some] <;> rfl) | (simp [*, errW_none, errW_some] <;> rfl), by repeat (first | (with_reducible first | exact HB.out | apply below_alloc | apply pw_below_drewN | apply below_drew1) | exact HB.out)⟩
    · replace c9 := Bool.eq_false_iff.mpr c9
      subst c9
      have H1 : (some false) = some r := by rw [if_neg (show ¬ (false = true) by decide)] at H; exact H
      clear H
      have H := H1
      clear H1
      obtain rfl := Option.some.inj H
      go_enter Try.func7, Try.ntmps7
      go_wp2_with (first | ((with_reducible refine gate_callee (f := 9) rfl ?_); refine goesL_ (some 7) rfl rfl Try.func9 (by kernel_rfl) rfl #[] rfl (by (try simp only [List.map_toArray, List.map_cons, List.map_nil]); first | done | rfl | (simp only [List.length_drop, List.length_take]; rfl)) ?_; (with_reducible refine (fairleadlaw05_awake.calls k  false _ A3.out).mono ?_); rintro e w15 ⟨rfl, hb⟩; refine ⟨_, rfl, ?_⟩; have n0_ := Aside0.mk (below_step (by repeat (first | (with_reducible first | exact HB.out | apply below_alloc | apply pw_below_drewN | apply below_drew1) | exact HB.out)) hb); clear HB; have HB := n0_; clear n0_; (try clear hb); (try clear hb2); (try clear hk); (try clear hi)) | ((with_reducible refine gate_callee (f := 13) rfl ?_); refine goesL_ (some 14) rfl rfl Try.func13 (by kernel_rfl) rfl #[.slice A0 l0.length c0, .int .i64 a1] rfl (by (try simp only [List.map_toArray, List.map_cons, List.map_nil]); first | done | rfl | (simp only [List.length_drop, List.length_take]; rfl)) ?_; (with_reducible refine (check_Next.calls k _ _ l0 a1 t220 _ ?side1 ?side2 A6.out).mono ?_); (case side1 => repeat (first | exact (Kd.C_below HR0.out HB.out) | (with_reducible refine Kd.C_alloc ?_ _) | (with_reducible refine Kd.C_drewN ?_ _) | (with_reducible refine Kd.C_drew ?_))); (case side2 => exact HC0.out); rintro e w16 ⟨v221, rfl, ho0, hb⟩; refine ⟨_, rfl, ?_⟩; have n0_ := Aside0.mk (Kd.R_lower ho0 (below_size (by repeat (first | (with_reducible first | exact HB.out | apply below_alloc | apply pw_below_drewN | apply below_drew1) | exact HB.out)))); have n1_ := Aside0.mk (below_step (by repeat (first | (with_reducible first | exact HB.out | apply below_alloc | apply pw_below_drewN | apply below_drew1) | exact HB.out)) hb); clear HB; have HO222 := n0_; have HB := n1_; clear n0_ n1_; (try clear hb); (try clear hb2); (try clear hk); (try clear hi); (try clear ho0)) | ((with_reducible refine gate_callee (f := 14) rfl ?_); refine goesL_ (some 17) rfl rfl Try.func14 (by kernel_rfl) rfl #[.slice A0 l0.length c0, .int .i64 a1] rfl (by (try simp only [List.map_toArray, List.map_cons, List.map_nil]); first | done | rfl | (simp only [List.length_drop, List.length_take]; rfl)) ?_; (with_reducible refine (fairleadref05_Next.calls k _ _ l0 a1 t223 _ ?side1 ?side2 A7.out).mono ?_); (case side1 => repeat (first | exact (Kd.C_below HR0.out HB.out) | (with_reducible refine Kd.C_alloc ?_ _) | (with_reducible refine Kd.C_drewN ?_ _) | (with_reducible refine Kd.C_drew ?_))); (case side2 => exact HC0.out); rintro e w17 ⟨v224, rfl, ho0, hb⟩; refine ⟨_, rfl, ?_⟩; have n0_ := Aside0.mk (Kd.R_elder' (by (with_reducible repeat (first | apply Kd.R_alloc | apply Kd.R_drewN | apply Kd.R_drew)); exact HO222.out) (Kd.R_base ho0) hb); have n1_ := Aside0.mk (Kd.R_lower (Kd.R_new' ho0 (Kd.R_lt (by (with_reducible repeat (first | apply Kd.R_alloc | apply Kd.R_drewN | apply Kd.R_drew)); exact HO222.out))) (below_size (by repeat (first | (with_reducible first | exact HB.out | apply below_alloc | apply pw_below_drewN | apply below_drew1) | exact HB.out)))); have n2_ := Aside0.mk (below_step (by repeat (first | (with_reducible first | exact HB.out | apply below_alloc | apply pw_below_drewN | apply below_drew1) | exact HB.out)) hb); clear HO222; clear HB; have HO222 := n0_; have HO225 := n1_; have HB := n2_; clear n0_ n1_ n2_; (try clear hb); (try clear hb2); (try clear hk); (try clear hi); (try clear ho0); obtain ⟨Ao18, co18, eo18⟩ := Kd.R_slice HO222.out; subst eo18; obtain ⟨Ao19, co19, eo19⟩ := Kd.R_slice HO225.out; subst eo19) | ((with_reducible refine gate_callee (f := 12) rfl ?_); refine goesL_ (some 18) rfl rfl Try.func12 (by kernel_rfl) rfl #[.slice Ao18 t220.length co18, .slice Ao19 t223.length co19] rfl (by (try simp only [List.map_toArray, List.map_cons, List.map_nil]); first | done | rfl | (simp only [List.length_drop, List.length_take]; rfl)) ?_; (with_reducible refine (fairleadref05_SameInts.calls k _ _ t220 _ _ t223 t226 _ ?side1 ?side2 ?side3 ?side4 A8.out).mono ?_); (case side1 => repeat (first | exact (Kd.R_reads' HO222.out).2.2 | (with_reducible refine Kd.C_alloc ?_ _) | (with_reducible refine Kd.C_drewN ?_ _) | (with_reducible refine Kd.C_drew ?_))); (case side2 => exact (Kd.R_reads' HO222.out).2.1); (case side3 => repeat (first | exact (Kd.R_reads' HO225.out).2.2 | (with_reducible refine Kd.C_alloc ?_ _) | (with_reducible refine Kd.C_drewN ?_ _) | (with_reducible refine Kd.C_drew ?_))); (case side4 => exact (Kd.R_reads' HO225.out).2.1); rintro e w' ⟨rfl, ⟨nd, rfl⟩⟩; refine ⟨_, rfl, ?_⟩))
      go_ret
      exact ⟨by first | rfl | (simp [errW_none, errW_some] <;> rfl) | (simp [*, errW_none, errW_some] <;> rfl), by repeat (first | (with_reducible first | exact HB.out | apply below_alloc | apply pw_below_drewN | apply below_drew1) | exact HB.out)⟩

/-- What is to be shown of fairleadlaw05_CheckNext, without Go and memory. -/
def fairleadlaw05_CheckNext.Pure : Prop := ∀ (l0 : List (S32)) (a1 : Int), (l0.length ≤ 9223372036854775807 ∧ ∀ x ∈ l0, (0 ≤ x.f0 ∧ x.f0 ≤ 65535) ∧ (0 ≤ x.f1 ∧ x.f1 ≤ 255) ∧ (0 ≤ x.f2 ∧ x.f2 ≤ 255) ∧ (0 ≤ x.f3 ∧ x.f3 ≤ 4294967295)) → ((-9223372036854775808) ≤ a1 ∧ a1 ≤ 9223372036854775807) → ∃ k, fairleadlaw05_CheckNext.f k l0 a1 = some true

end Go.Proofs.Ytojaklonmikldaa.M
