-- Laid by a program (wip/tools/myprint.py) out of the loaded program's own print: for each Go function a Lean function and the proof of its contract.
import Derived.Test.YtdlmnmhlgacpnaaMx0
import Derived.Test.YtdlmnmhlgacpnaaMx1
namespace Go.Proofs.Ytdlmnmhlgacpnaa.M
open Go.RowKit Go.Proofs.YtdlmnmhlgacpnaaW.PrintWords Go.Proofs.YtdlmnmhlgacpnaaW.PrintLast Go.Proofs.YtdlmnmhlgacpnaaW.PrintMore
attribute [local go_sem] max2_int min2_int max_two min_two max_three min_three max_four min_four   -- for this text's walks alone
set_option linter.unusedVariables false
set_option linter.unusedSimpArgs false

/-! ### check_Next: function 16 -/
mutual
def check_Next.j0 : Nat → List (S37) → Int → Bool → Option (List Int)
  | 0, _, _, _ => none
  | k + 1, x0, x1, x17 => if x17 = true then (some ([] : List Int)) else (if 0 ≤ x1 then (if x1 < (x0.length : Int) then (if ((rd_T37 x0 x1).f0) = 5 then (if ([] : List Int).length < 17592186044416 then (check_Next.j1 k x0 x1 (([] : List Int) ++ [IntKind.u64.wrap ((rd_T37 x0 x1).f3)])) else (none)) else ((insn_Jumps.f ((rd_T37 x0 x1).f0)).bind fun t416 => (if t416 = true then (if ([] : List Int).length < 17592186044416 then ((some (([] : List Int) ++ [IntKind.u64.wrap (mn ((rd_T37 x0 x1).f1) ((rd_T37 x0 x1).f2))] : List Int)).bind fun y417 => (if ((rd_T37 x0 x1).f1) = ((rd_T37 x0 x1).f2) then (check_Next.j1 k x0 x1 y417) else (if y417.length < 17592186044416 then (check_Next.j1 k x0 x1 (y417 ++ [IntKind.u64.wrap (mx ((rd_T37 x0 x1).f1) ((rd_T37 x0 x1).f2))])) else (none)))) else (none)) else ((insn_Ends.f ((rd_T37 x0 x1).f0)).bind fun t423 => (if t423 = true then (check_Next.j1 k x0 x1 ([] : List Int)) else (if ([] : List Int).length < 17592186044416 then (check_Next.j1 k x0 x1 (([] : List Int) ++ [0])) else (none))))))) else (none)) else (none))
def check_Next.j1 : Nat → List (S37) → Int → List Int → Option (List Int)
  | 0, _, _, _ => none
  | k + 1, x0, x1, x5 => check_Next.l0 k x0 x1 ([] : List Int) x5 (x5.length : Int) 0
def check_Next.l0 : Nat → List (S37) → Int → List Int → List Int → Int → Int → Option (List Int)
  | 0, _, _, _, _, _, _ => none
  | k + 1, x0, x1, x7, x67, x68, x69 => if x69 < x68 then (if 0 ≤ x69 then (if x69 < (x67.length : Int) then (if (rd x67 x69) < (IntKind.u64.wrap (wrap64 ((wrap64 ((x0.length : Int) - 1)) - x1))) then (if x7.length < 17592186044416 then (check_Next.l0 k x0 x1 (x7 ++ [wrap64 ((wrap64 (x1 + 1)) + (wrap64 (rd x67 x69)))]) x67 x68 (wrap64 (x69 + 1))) else (none)) else (check_Next.l0 k x0 x1 x7 x67 x68 (wrap64 (x69 + 1)))) else (none)) else (none)) else (some x7)
end
def check_Next.f (k : Nat) (l0 : List (S37)) (a1 : Int) : Option (List Int) := if a1 < 0 then (check_Next.j0 k l0 a1 true) else (check_Next.j0 k l0 a1 (decide (a1 ≥ (l0.length : Int))))
theorem check_Next.mono_l : ∀ k, (∀ y0 y1 y2, LeO (check_Next.j0 k y0 y1 y2) (check_Next.j0 (k + 1) y0 y1 y2)) ∧ (∀ y0 y1 y2, LeO (check_Next.j1 k y0 y1 y2) (check_Next.j1 (k + 1) y0 y1 y2)) ∧ (∀ y0 y1 y2 y3 y4 y5, LeO (check_Next.l0 k y0 y1 y2 y3 y4 y5) (check_Next.l0 (k + 1) y0 y1 y2 y3 y4 y5))
  | 0 => ⟨fun _ _ _ r h => by simp [check_Next.j0] at h, fun _ _ _ r h => by simp [check_Next.j1] at h, fun _ _ _ _ _ _ r h => by simp [check_Next.l0] at h⟩
  | k + 1 => by
    obtain ⟨ih0, ih1, ih2⟩ := check_Next.mono_l k
    refine ⟨?_, ?_, ?_⟩
    · intro y0 y1 y2
      unfold check_Next.j0
      repeat' first
      | (with_reducible exact ih0 _ _ _)
      | (with_reducible exact ih1 _ _ _)
      | (with_reducible exact ih2 _ _ _ _ _ _)
      | (with_reducible exact LeO.refl _)
      | (with_reducible exact LeO.none _)
      | (with_reducible refine LeO.ite ?_ ?_)
      | (with_reducible refine LeO.bind ?_ (fun _ => ?_))
      | exact ih0 _ _ _
      | exact ih1 _ _ _
      | exact ih2 _ _ _ _ _ _
      | exact LeO.none _
      | refine LeO.ite ?_ ?_
      | refine LeO.bind ?_ (fun _ => ?_)
    · intro y0 y1 y2
      unfold check_Next.j1
      repeat' first
      | (with_reducible exact ih0 _ _ _)
      | (with_reducible exact ih1 _ _ _)
      | (with_reducible exact ih2 _ _ _ _ _ _)
      | (with_reducible exact LeO.refl _)
      | (with_reducible exact LeO.none _)
      | (with_reducible refine LeO.ite ?_ ?_)
      | (with_reducible refine LeO.bind ?_ (fun _ => ?_))
      | exact ih0 _ _ _
      | exact ih1 _ _ _
      | exact ih2 _ _ _ _ _ _
      | exact LeO.none _
      | refine LeO.ite ?_ ?_
      | refine LeO.bind ?_ (fun _ => ?_)
    · intro y0 y1 y2 y3 y4 y5
      unfold check_Next.l0
      repeat' first
      | (with_reducible exact ih0 _ _ _)
      | (with_reducible exact ih1 _ _ _)
      | (with_reducible exact ih2 _ _ _ _ _ _)
      | (with_reducible exact LeO.refl _)
      | (with_reducible exact LeO.none _)
      | (with_reducible refine LeO.ite ?_ ?_)
      | (with_reducible refine LeO.bind ?_ (fun _ => ?_))
      | exact ih0 _ _ _
      | exact ih1 _ _ _
      | exact ih2 _ _ _ _ _ _
      | exact LeO.none _
      | refine LeO.ite ?_ ?_
      | refine LeO.bind ?_ (fun _ => ?_)
theorem check_Next.mono : ∀ a0 a1 k, LeO (check_Next.f k a0 a1) (check_Next.f (k + 1) a0 a1) := by
  intro a0 a1 k
  obtain ⟨ih0, ih1, ih2⟩ := check_Next.mono_l k
  unfold check_Next.f
  repeat' first
      | (with_reducible exact ih0 _ _ _)
      | (with_reducible exact ih1 _ _ _)
      | (with_reducible exact ih2 _ _ _ _ _ _)
      | (with_reducible exact LeO.refl _)
      | (with_reducible exact LeO.none _)
      | (with_reducible refine LeO.ite ?_ ?_)
      | (with_reducible refine LeO.bind ?_ (fun _ => ?_))
      | exact ih0 _ _ _
      | exact ih1 _ _ _
      | exact ih2 _ _ _ _ _ _
      | exact LeO.none _
      | refine LeO.ite ?_ ?_
      | refine LeO.bind ?_ (fun _ => ?_)
set_option maxHeartbeats 8000000 in
set_option maxRecDepth 100000 in
theorem check_Next.calls (k : Nat) (A0 : Option Addr) (c0 : Nat) (l0 : List (S37)) (a1 : Int) (r : List Int) (w : World) (hr0 : Kd.C k37 w A0 l0.length l0) (hc0 : l0.length ≤ c0) (h : check_Next.f k l0 a1 = some r) :
    Calls Try.prog 16 #[.slice A0 l0.length c0, .int .i64 a1] w fun e w' => ∃ v0_ : Value, e = .returned (v0_) ∧ Kd.R (Kd.int .i64) 3 w' w.heap.size (fun _ => True) v0_ r ∧ Below w.heap.size w w' := by
  have hu37 := Try.underlying37
  have HR0 := Aside0.mk hr0
  have HC0 := Aside0.mk hc0
  clear hr0 hc0
  have HB := Aside0.mk (Below.refl w.heap.size w)
  have H : (if a1 < 0 then (check_Next.j0 k l0 a1 true) else (check_Next.j0 k l0 a1 (decide (a1 ≥ (l0.length : Int))))) = some r := h
  clear h
  have HC3 := Aside0.mk H
  clear H
  go_enter Try.func16, Try.ntmps16
  go_upto_region 1 with (fail)
  go_cut [17] (fun v17 wc => ∃ (kq : Nat) (x17_2 : Bool), v17 = .bool x17_2 ∧ Aside0 (check_Next.j0 kq l0 a1 x17_2 = some r) ∧ Aside0 (kq ≤ k) ∧ Aside0 (Below w.heap.size w wc))
  case first =>
    have H := HC3.out
    clear HC3
    by_cases c4 : a1 < 0
    · rw [if_pos c4] at H
      have c4b0 : decide (a1 < 0) = true := decide_eq_true c4
      clear c4
      (first | rw [c4b0] | (simp only [i64_w, i32_w]; rw [c4b0]) | skip)
      have H' := Aside0.mk H
      clear H
      go_wp2
      go_meet
      case rel => exact ⟨_, (true), (by first | rfl | (simp; done) | (simp [*]; done)), H', ⟨by first | omega | exact Nat.le_refl _⟩, ⟨by repeat (first | (with_reducible first | exact HB.out | apply below_alloc | apply pw_below_drewN | apply below_drew1) | exact HB.out)⟩⟩
    · rw [if_neg c4] at H
      have c4b0 : decide (a1 < 0) = false := decide_eq_false c4
      clear c4
      (first | rw [c4b0] | (simp only [i64_w, i32_w]; rw [c4b0]) | skip)
      have H' := Aside0.mk H
      clear H
      go_wp2
      go_meet
      case rel => exact ⟨_, (decide (a1 ≥ (l0.length : Int))), (by first | rfl | (simp; done) | (simp [*]; done)), H', ⟨by first | omega | exact Nat.le_refl _⟩, ⟨by repeat (first | (with_reducible first | exact HB.out | apply below_alloc | apply pw_below_drewN | apply below_drew1) | exact HB.out)⟩⟩
  case rest =>
    clear HC3
    try clear c1
    try clear p2
    try clear c4
    try clear c4b0
    obtain ⟨kq, x17_2, rfl, HA, HJ2, HB⟩ := hcut
    cases kq with
    | zero => exact absurd HA.out (by simp [check_Next.j0])
    | succ kj2 =>
      have H := HA.out
      clear HA
      simp only [check_Next.j0] at H
      by_cases c5 : x17_2 = true
      · subst c5
        have H1 : (some ([] : List Int)) = some r := by rw [if_pos rfl] at H; exact H
        clear H
        have H := H1
        clear H1
        obtain rfl := Option.some.inj H
        go_wp2
        go_ret
        exact ⟨_, by first | rfl | (simp [errW_none, errW_some] <;> rfl) | (simp [*, errW_none, errW_some] <;> rfl), by first | exact Kd.R_nil _ _ _ _ _ | exact Kd.N_nil _ _ _ _ _ | exact Kd.V_nil _ _ _ _ _ | exact Kd.Q_nil _ _ _ _ _ | exact Kd.S_nil _ _ _ _ _, by repeat (first | (with_reducible first | exact HB.out | apply below_alloc | apply pw_below_drewN | apply below_drew1) | exact HB.out)⟩
      · replace c5 := Bool.eq_false_iff.mpr c5
        subst c5
        have H1 : (if 0 ≤ a1 then (if a1 < (l0.length : Int) then (if ((rd_T37 l0 a1).f0) = 5 then (if ([] : List Int).length < 17592186044416 then (check_Next.j1 kj2 l0 a1 (([] : List Int) ++ [IntKind.u64.wrap ((rd_T37 l0 a1).f3)])) else (none)) else ((insn_Jumps.f ((rd_T37 l0 a1).f0)).bind fun t416 => (if t416 = true then (if ([] : List Int).length < 17592186044416 then ((some (([] : List Int) ++ [IntKind.u64.wrap (mn ((rd_T37 l0 a1).f1) ((rd_T37 l0 a1).f2))] : List Int)).bind fun y417 => (if ((rd_T37 l0 a1).f1) = ((rd_T37 l0 a1).f2) then (check_Next.j1 kj2 l0 a1 y417) else (if y417.length < 17592186044416 then (check_Next.j1 kj2 l0 a1 (y417 ++ [IntKind.u64.wrap (mx ((rd_T37 l0 a1).f1) ((rd_T37 l0 a1).f2))])) else (none)))) else (none)) else ((insn_Ends.f ((rd_T37 l0 a1).f0)).bind fun t423 => (if t423 = true then (check_Next.j1 kj2 l0 a1 ([] : List Int)) else (if ([] : List Int).length < 17592186044416 then (check_Next.j1 kj2 l0 a1 (([] : List Int) ++ [0])) else (none))))))) else (none)) else (none)) = some r := by rw [if_neg (show ¬ (false = true) by decide)] at H; exact H
        clear H
        have H := H1
        clear H1
        by_cases c6 : 0 ≤ a1
        · rw [if_pos c6] at H
          have c6b0 : decide (0 ≤ a1) = true := decide_eq_true c6
          clear c6
          by_cases c7 : a1 < (l0.length : Int)
          · rw [if_pos c7] at H
            have c7b0 : decide (a1 < (l0.length : Int)) = true := decide_eq_true c7
            clear c7
            have HC8 := Aside0.mk H
            clear H
            have p411 : 0 ≤ (a1 : Int) := of_decide_eq_true (by first | (with_reducible assumption) | assumption)
            have q411 : a1 < (l0.length : Int) := of_decide_eq_true (by first | (with_reducible assumption) | assumption)
            obtain ⟨ad411, e411, hx411_0, hx411_1, hx411_2, hx411_3⟩ := at_T37 HR0.out a1 p411 q411
            cases e411
            replace hx411_0 := (HB.out.cell (World.block_lt_of_cell? w _ hx411_0)).trans hx411_0
            replace hx411_1 := (HB.out.cell (World.block_lt_of_cell? w _ hx411_1)).trans hx411_1
            replace hx411_2 := (HB.out.cell (World.block_lt_of_cell? w _ hx411_2)).trans hx411_2
            replace hx411_3 := (HB.out.cell (World.block_lt_of_cell? w _ hx411_3)).trans hx411_3
            replace p411 := eq_true p411
            replace q411 := eq_true q411
            go_upto_block 0 with (first | ((with_reducible refine gate_dst (N := 6) rfl ?_); (try (refine gate_guard (by rfl) ?_; dsimp only)); refine box_event ?hg (N := 6) ?hd (cs := #[.int .u16 0, .int .u8 0, .int .u8 0, .int .u32 0]) (t := 37) ?hr ?_; (case hd => rfl); (case hg => rfl); (case hr => first | (go_simp; done) | (go_simp; rfl)); intro gb412 hg w9 hbox hb; have n0_ := Aside0.mk (below_step (by repeat (first | (with_reducible first | exact HB.out | apply below_alloc | apply pw_below_drewN | apply below_drew1) | exact HB.out)) hb); have n1_ := Aside0.mk (hbox); have n2_ := Aside0.mk ((by rw [hg]; exact (below_size (by repeat (first | (with_reducible first | exact HB.out | apply below_alloc | apply pw_below_drewN | apply below_drew1) | exact HB.out))) : w.heap.size ≤ gb412)); have n3_ := Aside0.mk ((by rw [hg]; exact (below_size (by repeat (first | (with_reducible first | exact HB.out | apply below_alloc | apply pw_below_drewN | apply below_drew1) | exact HB.out))) : w.heap.size ≤ gb412)); clear HB; have HB := n0_; have BK412 := n1_; have GW412 := n2_; have GE412 := n3_; clear n0_ n1_ n2_ n3_; clear hb hbox hg; have hcz10_0 : w9.cell? ⟨gb412, 0, none⟩ = some (.int .u16 0) := (blk_cell BK412.out 0).trans rfl; have hcz10_1 : w9.cell? ⟨gb412, 1, none⟩ = some (.int .u8 0) := (blk_cell BK412.out 1).trans rfl; have hcz10_2 : w9.cell? ⟨gb412, 2, none⟩ = some (.int .u8 0) := (blk_cell BK412.out 2).trans rfl; have hcz10_3 : w9.cell? ⟨gb412, 3, none⟩ = some (.int .u32 0) := (blk_cell BK412.out 3).trans rfl; have hfz10_0 := blk_frozen BK412.out 0; have hfz10_1 := blk_frozen BK412.out 1; have hfz10_2 := blk_frozen BK412.out 2; have hfz10_3 := blk_frozen BK412.out 3))
            (try simp only [Act.put, List.setIfInBounds_toArray, List.set_cons_zero, List.set_cons_succ])
            go_cut [5] (fun v5 wc => ∃ (kq : Nat) (x5_7 : List Int), Aside0 (check_Next.j1 kq l0 a1 x5_7 = some r) ∧ Aside0 (kq ≤ kj2) ∧ Aside0 (Kd.R (Kd.int .u64) 24 wc w.heap.size (fun _ => True) v5 x5_7) ∧ Aside0 (wc.heap[gb412]? = some (.cells #[.int .u16 ((rd_T37 l0 a1).f0), .int .u8 ((rd_T37 l0 a1).f1), .int .u8 ((rd_T37 l0 a1).f2), .int .u32 ((rd_T37 l0 a1).f3)] 37 (0, 0))) ∧ Aside0 (Below w.heap.size w wc))
            case first =>
              have H := HC8.out
              clear HC8
              by_cases c11 : ((rd_T37 l0 a1).f0) = 5
              · rw [if_pos c11] at H
                have c11b0 : (((rd_T37 l0 a1).f0) == 5) = true := beq_iff_eq.mpr c11
                have c11b1 : (((rd_T37 l0 a1).f0) != 5) = false := bne_eq_false_iff_eq.mpr c11
                clear c11
                (first | rw [c11b0] | (simp only [i64_w, i32_w]; rw [c11b0]) | skip)
                by_cases c12 : ([] : List Int).length < 17592186044416
                · rw [if_pos c12] at H
                  have LMc12 := Aside0.mk c12
                  clear c12
                  obtain ⟨y413, hy413⟩ : ∃ y_ : List Int, y_ = (([] : List Int) ++ [IntKind.u64.wrap ((rd_T37 l0 a1).f3)]) := ⟨_, rfl⟩
                  replace H : (check_Next.j1 kj2 l0 a1 y413) = some r := by first | (rw [hy413]; with_reducible exact H) | (have H2_ := (Option.bind_some _ _).symm.trans H; rw [hy413]; with_reducible exact H2_) | (have H2_ := (Option.bind_some _ _).symm.trans H; with_reducible exact H2_) | with_reducible exact H | (rw [hy413]; exact H) | exact H
                  have Ny413 := Aside0.mk hy413
                  clear hy413
                  have H' := Aside0.mk H
                  clear H
                  have hcz13_0 : w9.cell? ⟨gb412, 0, none⟩ = some (.int .u16 0) := (blk_cell BK412.out 0).trans rfl
                  have hcz13_1 : w9.cell? ⟨gb412, 1, none⟩ = some (.int .u8 0) := (blk_cell BK412.out 1).trans rfl
                  have hcz13_2 : w9.cell? ⟨gb412, 2, none⟩ = some (.int .u8 0) := (blk_cell BK412.out 2).trans rfl
                  have hcz13_3 : w9.cell? ⟨gb412, 3, none⟩ = some (.int .u32 0) := (blk_cell BK412.out 3).trans rfl
                  have hfz13_0 := blk_frozen BK412.out 0
                  have hfz13_1 := blk_frozen BK412.out 1
                  have hfz13_2 := blk_frozen BK412.out 2
                  have hfz13_3 := blk_frozen BK412.out 3
                  go_wp2_with (first | ((with_reducible refine gate_builtin (b := .append) (xs := #[.tmp 26, .tmp 30]) rfl ?_); (try (refine gate_guard (by rfl) ?_; dsimp only)); at_builtin; refine Kd.R_append (Kd.int .u64) (w0 := w) w.heap.size rfl (.tmp 26) (.tmp 30) 59 24 (.int .u64 0) 8 rfl Try.underlying59 info24 rfl (by decide) (by omega) (.slice none 0 0) ([] : List Int) (IntKind.u64.wrap ((rd_T37 l0 a1).f3)) [.int .u64 (IntKind.u64.wrap ((rd_T37 l0 a1).f3))] (fun _ => True) (fun _ => False) rfl (by first | (go_simp; done) | (go_simp; rfl)) ?aP (fun _ hk => hk.elim) ?aF ?aO ?aB ?aS ?aL ?_; (case aP => exact rfl); (case aB => exact (by repeat (first | (with_reducible first | exact HB.out | apply below_alloc | apply pw_below_drewN | apply below_drew1 | refine below_set ?_ GE412.out) | exact HB.out))); (case aF => exact (fun _ _ => trivial)); (case aO => exact ((Kd.R_nil _ _ _ _ (fun _ => True)))); (case aS => exact (below_size (by repeat (first | (with_reducible first | exact HB.out | apply below_alloc | apply pw_below_drewN | apply below_drew1 | refine below_set ?_ GE412.out) | exact HB.out)))); (case aL => have := LMc12.out; omega); intro v414 w14 ho hb hg hat; rw [← Ny413.out] at ho; have n0_ := Aside0.mk (blk_grown (g := gb412) (o := .cells #[.int .u16 ((rd_T37 l0 a1).f0), .int .u8 ((rd_T37 l0 a1).f1), .int .u8 ((rd_T37 l0 a1).f2), .int .u32 ((rd_T37 l0 a1).f3)] 37 (0, 0)) (by (with_reducible repeat (first | refine blk_drewN ?_ _ | refine blk_drew ?_ | refine blk_alloc ?_ _)); refine blk_put (cs := #[.int .u16 ((rd_T37 l0 a1).f0), .int .u8 ((rd_T37 l0 a1).f1), .int .u8 ((rd_T37 l0 a1).f2), .int .u32 0]) ?_ 3 _ rfl; (with_reducible repeat (first | refine blk_drewN ?_ _ | refine blk_drew ?_ | refine blk_alloc ?_ _)); refine blk_put (cs := #[.int .u16 ((rd_T37 l0 a1).f0), .int .u8 ((rd_T37 l0 a1).f1), .int .u8 0, .int .u32 0]) ?_ 2 _ rfl; (with_reducible repeat (first | refine blk_drewN ?_ _ | refine blk_drew ?_ | refine blk_alloc ?_ _)); refine blk_put (cs := #[.int .u16 ((rd_T37 l0 a1).f0), .int .u8 0, .int .u8 0, .int .u32 0]) ?_ 1 _ rfl; (with_reducible repeat (first | refine blk_drewN ?_ _ | refine blk_drew ?_ | refine blk_alloc ?_ _)); refine blk_put (cs := #[.int .u16 0, .int .u8 0, .int .u8 0, .int .u32 0]) ?_ 0 _ rfl; (with_reducible repeat (first | refine blk_drewN ?_ _ | refine blk_drew ?_ | refine blk_alloc ?_ _)); exact BK412.out) hg (by simp [Value.ownBlock])); have n1_ := Aside0.mk (hb); have n2_ := Aside0.mk (ho); clear BK412; clear HB; have BK412 := n0_; have HB := n1_; have HO415 := n2_; clear n0_ n1_ n2_; clear ho hb hg hat))
                  go_meet
                  case rel => exact ⟨_, (y413), H', ⟨by have := HJ2.out; first | omega | exact Nat.le_refl _⟩, ⟨by (with_reducible repeat (first | apply Kd.R_alloc | apply Kd.R_drewN | apply Kd.R_drew)); exact HO415.out⟩, ⟨by (with_reducible repeat (first | refine blk_drewN ?_ _ | refine blk_drew ?_ | refine blk_alloc ?_ _)); exact BK412.out⟩, ⟨by repeat (first | (with_reducible first | exact HB.out | apply below_alloc | apply pw_below_drewN | apply below_drew1 | refine below_set ?_ GE412.out) | exact HB.out)⟩⟩
                · rw [if_neg c12] at H
                  exact absurd H (by simp)
              · rw [if_neg c11] at H
                have c11b0 : (((rd_T37 l0 a1).f0) == 5) = false := beq_eq_false_iff_ne.mpr c11
                have c11b1 : (((rd_T37 l0 a1).f0) != 5) = true := bne_iff_ne.mpr c11
                (first | rw [c11b0] | (simp only [i64_w, i32_w]; rw [c11b0]) | skip)
                replace H := Option.bind_eq_some_iff.mp H
                obtain ⟨t416, A150, H⟩ := H
                replace H : (if t416 = true then (if ([] : List Int).length < 17592186044416 then ((some (([] : List Int) ++ [IntKind.u64.wrap (mn ((rd_T37 l0 a1).f1) ((rd_T37 l0 a1).f2))] : List Int)).bind fun y417 => (if ((rd_T37 l0 a1).f1) = ((rd_T37 l0 a1).f2) then (check_Next.j1 kj2 l0 a1 y417) else (if y417.length < 17592186044416 then (check_Next.j1 kj2 l0 a1 (y417 ++ [IntKind.u64.wrap (mx ((rd_T37 l0 a1).f1) ((rd_T37 l0 a1).f2))])) else (none)))) else (none)) else ((insn_Ends.f ((rd_T37 l0 a1).f0)).bind fun t423 => (if t423 = true then (check_Next.j1 kj2 l0 a1 ([] : List Int)) else (if ([] : List Int).length < 17592186044416 then (check_Next.j1 kj2 l0 a1 (([] : List Int) ++ [0])) else (none))))) = some r := H
                have A15 := Aside0.mk A150
                clear A150
                by_cases c16 : t416 = true
                · subst c16
                  have H1 : (if ([] : List Int).length < 17592186044416 then ((some (([] : List Int) ++ [IntKind.u64.wrap (mn ((rd_T37 l0 a1).f1) ((rd_T37 l0 a1).f2))] : List Int)).bind fun y417 => (if ((rd_T37 l0 a1).f1) = ((rd_T37 l0 a1).f2) then (check_Next.j1 kj2 l0 a1 y417) else (if y417.length < 17592186044416 then (check_Next.j1 kj2 l0 a1 (y417 ++ [IntKind.u64.wrap (mx ((rd_T37 l0 a1).f1) ((rd_T37 l0 a1).f2))])) else (none)))) else (none)) = some r := by rw [if_pos rfl] at H; exact H
                  clear H
                  have H := H1
                  clear H1
                  obtain ⟨ji17, hji17⟩ : ∃ j_ : Int, (mn ((rd_T37 l0 a1).f1) ((rd_T37 l0 a1).f2)) = j_ := ⟨_, rfl⟩
                  replace H : (if ([] : List Int).length < 17592186044416 then ((some (([] : List Int) ++ [IntKind.u64.wrap (ji17)] : List Int)).bind fun y417 => (if ((rd_T37 l0 a1).f1) = ((rd_T37 l0 a1).f2) then (check_Next.j1 kj2 l0 a1 y417) else (if y417.length < 17592186044416 then (check_Next.j1 kj2 l0 a1 (y417 ++ [IntKind.u64.wrap (mx ((rd_T37 l0 a1).f1) ((rd_T37 l0 a1).f2))])) else (none)))) else (none)) = some r := by first | (rw [hji17] at H; exact H) | (simp only [hji17] at H ⊢; exact H)
                  (try rw [hji17] at A15)
                  have hji17_ : (if ((rd_T37 l0 a1).f2) < ((rd_T37 l0 a1).f1) then ((rd_T37 l0 a1).f2) else ((rd_T37 l0 a1).f1)) = ji17 := hji17
                  by_cases c18 : ([] : List Int).length < 17592186044416
                  · rw [if_pos c18] at H
                    have LMc18 := Aside0.mk c18
                    clear c18
                    obtain ⟨y417, hy417⟩ : ∃ y_ : List Int, y_ = (([] : List Int) ++ [IntKind.u64.wrap (ji17)]) := ⟨_, rfl⟩
                    replace H : (if ((rd_T37 l0 a1).f1) = ((rd_T37 l0 a1).f2) then (check_Next.j1 kj2 l0 a1 y417) else (if y417.length < 17592186044416 then (check_Next.j1 kj2 l0 a1 (y417 ++ [IntKind.u64.wrap (mx ((rd_T37 l0 a1).f1) ((rd_T37 l0 a1).f2))])) else (none))) = some r := by first | (rw [hy417]; with_reducible exact H) | (have H2_ := (Option.bind_some _ _).symm.trans H; rw [hy417]; with_reducible exact H2_) | (have H2_ := (Option.bind_some _ _).symm.trans H; with_reducible exact H2_) | with_reducible exact H | (rw [hy417]; exact H) | exact H
                    have Ny417 := Aside0.mk hy417
                    clear hy417
                    by_cases c19 : ((rd_T37 l0 a1).f1) = ((rd_T37 l0 a1).f2)
                    · rw [if_pos c19] at H
                      have c19b0 : (((rd_T37 l0 a1).f1) == ((rd_T37 l0 a1).f2)) = true := beq_iff_eq.mpr c19
                      have c19b1 : (((rd_T37 l0 a1).f1) != ((rd_T37 l0 a1).f2)) = false := bne_eq_false_iff_eq.mpr c19
                      clear c19
                      have H' := Aside0.mk H
                      clear H
                      have hcz20_0 : w9.cell? ⟨gb412, 0, none⟩ = some (.int .u16 0) := (blk_cell BK412.out 0).trans rfl
                      have hcz20_1 : w9.cell? ⟨gb412, 1, none⟩ = some (.int .u8 0) := (blk_cell BK412.out 1).trans rfl
                      have hcz20_2 : w9.cell? ⟨gb412, 2, none⟩ = some (.int .u8 0) := (blk_cell BK412.out 2).trans rfl
                      have hcz20_3 : w9.cell? ⟨gb412, 3, none⟩ = some (.int .u32 0) := (blk_cell BK412.out 3).trans rfl
                      have hfz20_0 := blk_frozen BK412.out 0
                      have hfz20_1 := blk_frozen BK412.out 1
                      have hfz20_2 := blk_frozen BK412.out 2
                      have hfz20_3 := blk_frozen BK412.out 3
                      go_wp2_with (first | ((with_reducible refine gate_callee (f := 23) rfl ?_); refine goesL_ (some 35) rfl rfl Try.func23 (by kernel_rfl) rfl #[.int .u16 ((rd_T37 l0 a1).f0)] rfl (by (try simp only [List.map_toArray, List.map_cons, List.map_nil]); first | done | rfl | (simp only [List.length_drop, List.length_take]; rfl)) ?_; (with_reducible refine (insn_Jumps.calls ((rd_T37 l0 a1).f0) true _ A15.out).mono ?_); rintro e w' ⟨rfl, ⟨nd, rfl⟩⟩; refine ⟨_, rfl, ?_⟩) | ((with_reducible refine gate_builtin (b := .append) (xs := #[.tmp 36, .tmp 43]) rfl ?_); (try (refine gate_guard (by rfl) ?_; dsimp only)); at_builtin; refine Kd.R_append (Kd.int .u64) (w0 := w) w.heap.size rfl (.tmp 36) (.tmp 43) 59 24 (.int .u64 0) 8 rfl Try.underlying59 info24 rfl (by decide) (by omega) (.slice none 0 0) ([] : List Int) (IntKind.u64.wrap (ji17)) [.int .u64 (IntKind.u64.wrap (ji17))] (fun _ => True) (fun _ => False) rfl (by first | (go_simp; done) | (go_simp; rfl)) ?aP (fun _ hk => hk.elim) ?aF ?aO ?aB ?aS ?aL ?_; (case aP => exact rfl); (case aB => exact (by repeat (first | (with_reducible first | exact HB.out | apply below_alloc | apply pw_below_drewN | apply below_drew1 | refine below_set ?_ GE412.out) | exact HB.out))); (case aF => exact (fun _ _ => trivial)); (case aO => exact ((Kd.R_nil _ _ _ _ (fun _ => True)))); (case aS => exact (below_size (by repeat (first | (with_reducible first | exact HB.out | apply below_alloc | apply pw_below_drewN | apply below_drew1 | refine below_set ?_ GE412.out) | exact HB.out)))); (case aL => have := LMc18.out; omega); intro v418 w21 ho hb hg hat; rw [← Ny417.out] at ho; have n0_ := Aside0.mk (blk_grown (g := gb412) (o := .cells #[.int .u16 ((rd_T37 l0 a1).f0), .int .u8 ((rd_T37 l0 a1).f1), .int .u8 ((rd_T37 l0 a1).f2), .int .u32 ((rd_T37 l0 a1).f3)] 37 (0, 0)) (by (with_reducible repeat (first | refine blk_drewN ?_ _ | refine blk_drew ?_ | refine blk_alloc ?_ _)); refine blk_put (cs := #[.int .u16 ((rd_T37 l0 a1).f0), .int .u8 ((rd_T37 l0 a1).f1), .int .u8 ((rd_T37 l0 a1).f2), .int .u32 0]) ?_ 3 _ rfl; (with_reducible repeat (first | refine blk_drewN ?_ _ | refine blk_drew ?_ | refine blk_alloc ?_ _)); refine blk_put (cs := #[.int .u16 ((rd_T37 l0 a1).f0), .int .u8 ((rd_T37 l0 a1).f1), .int .u8 0, .int .u32 0]) ?_ 2 _ rfl; (with_reducible repeat (first | refine blk_drewN ?_ _ | refine blk_drew ?_ | refine blk_alloc ?_ _)); refine blk_put (cs := #[.int .u16 ((rd_T37 l0 a1).f0), .int .u8 0, .int .u8 0, .int .u32 0]) ?_ 1 _ rfl; (with_reducible repeat (first | refine blk_drewN ?_ _ | refine blk_drew ?_ | refine blk_alloc ?_ _)); refine blk_put (cs := #[.int .u16 0, .int .u8 0, .int .u8 0, .int .u32 0]) ?_ 0 _ rfl; (with_reducible repeat (first | refine blk_drewN ?_ _ | refine blk_drew ?_ | refine blk_alloc ?_ _)); exact BK412.out) hg (by simp [Value.ownBlock])); have n1_ := Aside0.mk (hb); have n2_ := Aside0.mk (ho); clear BK412; clear HB; have BK412 := n0_; have HB := n1_; have HO419 := n2_; clear n0_ n1_ n2_; clear ho hb hg hat; have hcz22_0 : w21.cell? ⟨gb412, 0, none⟩ = some (.int .u16 ((rd_T37 l0 a1).f0)) := (blk_cell BK412.out 0).trans rfl; have hcz22_1 : w21.cell? ⟨gb412, 1, none⟩ = some (.int .u8 ((rd_T37 l0 a1).f1)) := (blk_cell BK412.out 1).trans rfl; have hcz22_2 : w21.cell? ⟨gb412, 2, none⟩ = some (.int .u8 ((rd_T37 l0 a1).f2)) := (blk_cell BK412.out 2).trans rfl; have hcz22_3 : w21.cell? ⟨gb412, 3, none⟩ = some (.int .u32 ((rd_T37 l0 a1).f3)) := (blk_cell BK412.out 3).trans rfl; have hfz22_0 := blk_frozen BK412.out 0; have hfz22_1 := blk_frozen BK412.out 1; have hfz22_2 := blk_frozen BK412.out 2; have hfz22_3 := blk_frozen BK412.out 3))
                      go_meet
                      case rel => exact ⟨_, (y417), H', ⟨by have := HJ2.out; first | omega | exact Nat.le_refl _⟩, ⟨by (with_reducible repeat (first | apply Kd.R_alloc | apply Kd.R_drewN | apply Kd.R_drew)); exact HO419.out⟩, ⟨by (with_reducible repeat (first | refine blk_drewN ?_ _ | refine blk_drew ?_ | refine blk_alloc ?_ _)); exact BK412.out⟩, ⟨by repeat (first | (with_reducible first | exact HB.out | apply below_alloc | apply pw_below_drewN | apply below_drew1 | refine below_set ?_ GE412.out) | exact HB.out)⟩⟩
                    · rw [if_neg c19] at H
                      have c19b0 : (((rd_T37 l0 a1).f1) == ((rd_T37 l0 a1).f2)) = false := beq_eq_false_iff_ne.mpr c19
                      have c19b1 : (((rd_T37 l0 a1).f1) != ((rd_T37 l0 a1).f2)) = true := bne_iff_ne.mpr c19
                      obtain ⟨ji23, hji23⟩ : ∃ j_ : Int, (mx ((rd_T37 l0 a1).f1) ((rd_T37 l0 a1).f2)) = j_ := ⟨_, rfl⟩
                      replace H : (if y417.length < 17592186044416 then (check_Next.j1 kj2 l0 a1 (y417 ++ [IntKind.u64.wrap (ji23)])) else (none)) = some r := by first | (rw [hji23] at H; exact H) | (simp only [hji23] at H ⊢; exact H)
                      (try rw [hji23] at A15)
                      have hji23_ : (if ((rd_T37 l0 a1).f1) < ((rd_T37 l0 a1).f2) then ((rd_T37 l0 a1).f2) else ((rd_T37 l0 a1).f1)) = ji23 := hji23
                      by_cases c24 : y417.length < 17592186044416
                      · rw [if_pos c24] at H
                        have LMc24 := Aside0.mk c24
                        clear c24
                        obtain ⟨y420, hy420⟩ : ∃ y_ : List Int, y_ = (y417 ++ [IntKind.u64.wrap (ji23)]) := ⟨_, rfl⟩
                        replace H : (check_Next.j1 kj2 l0 a1 y420) = some r := by first | (rw [hy420]; with_reducible exact H) | (have H2_ := (Option.bind_some _ _).symm.trans H; rw [hy420]; with_reducible exact H2_) | (have H2_ := (Option.bind_some _ _).symm.trans H; with_reducible exact H2_) | with_reducible exact H | (rw [hy420]; exact H) | exact H
                        have Ny420 := Aside0.mk hy420
                        clear hy420
                        have H' := Aside0.mk H
                        clear H
                        have hcz25_0 : w9.cell? ⟨gb412, 0, none⟩ = some (.int .u16 0) := (blk_cell BK412.out 0).trans rfl
                        have hcz25_1 : w9.cell? ⟨gb412, 1, none⟩ = some (.int .u8 0) := (blk_cell BK412.out 1).trans rfl
                        have hcz25_2 : w9.cell? ⟨gb412, 2, none⟩ = some (.int .u8 0) := (blk_cell BK412.out 2).trans rfl
                        have hcz25_3 : w9.cell? ⟨gb412, 3, none⟩ = some (.int .u32 0) := (blk_cell BK412.out 3).trans rfl
                        have hfz25_0 := blk_frozen BK412.out 0
                        have hfz25_1 := blk_frozen BK412.out 1
                        have hfz25_2 := blk_frozen BK412.out 2
                        have hfz25_3 := blk_frozen BK412.out 3
                        go_wp2_with (first | ((with_reducible refine gate_callee (f := 23) rfl ?_); refine goesL_ (some 35) rfl rfl Try.func23 (by kernel_rfl) rfl #[.int .u16 ((rd_T37 l0 a1).f0)] rfl (by (try simp only [List.map_toArray, List.map_cons, List.map_nil]); first | done | rfl | (simp only [List.length_drop, List.length_take]; rfl)) ?_; (with_reducible refine (insn_Jumps.calls ((rd_T37 l0 a1).f0) true _ A15.out).mono ?_); rintro e w' ⟨rfl, ⟨nd, rfl⟩⟩; refine ⟨_, rfl, ?_⟩) | ((with_reducible refine gate_builtin (b := .append) (xs := #[.tmp 36, .tmp 43]) rfl ?_); (try (refine gate_guard (by rfl) ?_; dsimp only)); at_builtin; refine Kd.R_append (Kd.int .u64) (w0 := w) w.heap.size rfl (.tmp 36) (.tmp 43) 59 24 (.int .u64 0) 8 rfl Try.underlying59 info24 rfl (by decide) (by omega) (.slice none 0 0) ([] : List Int) (IntKind.u64.wrap (ji17)) [.int .u64 (IntKind.u64.wrap (ji17))] (fun _ => True) (fun _ => False) rfl (by first | (go_simp; done) | (go_simp; rfl)) ?aP (fun _ hk => hk.elim) ?aF ?aO ?aB ?aS ?aL ?_; (case aP => exact rfl); (case aB => exact (by repeat (first | (with_reducible first | exact HB.out | apply below_alloc | apply pw_below_drewN | apply below_drew1 | refine below_set ?_ GE412.out) | exact HB.out))); (case aF => exact (fun _ _ => trivial)); (case aO => exact ((Kd.R_nil _ _ _ _ (fun _ => True)))); (case aS => exact (below_size (by repeat (first | (with_reducible first | exact HB.out | apply below_alloc | apply pw_below_drewN | apply below_drew1 | refine below_set ?_ GE412.out) | exact HB.out)))); (case aL => have := LMc18.out; omega); intro v418 w26 ho hb hg hat; rw [← Ny417.out] at ho; have n0_ := Aside0.mk (blk_grown (g := gb412) (o := .cells #[.int .u16 ((rd_T37 l0 a1).f0), .int .u8 ((rd_T37 l0 a1).f1), .int .u8 ((rd_T37 l0 a1).f2), .int .u32 ((rd_T37 l0 a1).f3)] 37 (0, 0)) (by (with_reducible repeat (first | refine blk_drewN ?_ _ | refine blk_drew ?_ | refine blk_alloc ?_ _)); refine blk_put (cs := #[.int .u16 ((rd_T37 l0 a1).f0), .int .u8 ((rd_T37 l0 a1).f1), .int .u8 ((rd_T37 l0 a1).f2), .int .u32 0]) ?_ 3 _ rfl; (with_reducible repeat (first | refine blk_drewN ?_ _ | refine blk_drew ?_ | refine blk_alloc ?_ _)); refine blk_put (cs := #[.int .u16 ((rd_T37 l0 a1).f0), .int .u8 ((rd_T37 l0 a1).f1), .int .u8 0, .int .u32 0]) ?_ 2 _ rfl; (with_reducible repeat (first | refine blk_drewN ?_ _ | refine blk_drew ?_ | refine blk_alloc ?_ _)); refine blk_put (cs := #[.int .u16 ((rd_T37 l0 a1).f0), .int .u8 0, .int .u8 0, .int .u32 0]) ?_ 1 _ rfl; (with_reducible repeat (first | refine blk_drewN ?_ _ | refine blk_drew ?_ | refine blk_alloc ?_ _)); refine blk_put (cs := #[.int .u16 0, .int .u8 0, .int .u8 0, .int .u32 0]) ?_ 0 _ rfl; (with_reducible repeat (first | refine blk_drewN ?_ _ | refine blk_drew ?_ | refine blk_alloc ?_ _)); exact BK412.out) hg (by simp [Value.ownBlock])); have n1_ := Aside0.mk (hb); have n2_ := Aside0.mk (ho); clear BK412; clear HB; have BK412 := n0_; have HB := n1_; have HO419 := n2_; clear n0_ n1_ n2_; clear ho hb hg hat; have hcz27_0 : w26.cell? ⟨gb412, 0, none⟩ = some (.int .u16 ((rd_T37 l0 a1).f0)) := (blk_cell BK412.out 0).trans rfl; have hcz27_1 : w26.cell? ⟨gb412, 1, none⟩ = some (.int .u8 ((rd_T37 l0 a1).f1)) := (blk_cell BK412.out 1).trans rfl; have hcz27_2 : w26.cell? ⟨gb412, 2, none⟩ = some (.int .u8 ((rd_T37 l0 a1).f2)) := (blk_cell BK412.out 2).trans rfl; have hcz27_3 : w26.cell? ⟨gb412, 3, none⟩ = some (.int .u32 ((rd_T37 l0 a1).f3)) := (blk_cell BK412.out 3).trans rfl; have hfz27_0 := blk_frozen BK412.out 0; have hfz27_1 := blk_frozen BK412.out 1; have hfz27_2 := blk_frozen BK412.out 2; have hfz27_3 := blk_frozen BK412.out 3) | ((with_reducible refine gate_builtin (b := .append) (xs := #[.tmp 50, .tmp 57]) rfl ?_); (try (refine gate_guard (by rfl) ?_; dsimp only)); at_builtin; refine Kd.R_append (Kd.int .u64) (w0 := w) w.heap.size rfl (.tmp 50) (.tmp 57) 59 24 (.int .u64 0) 8 rfl Try.underlying59 info24 rfl (by decide) (by omega) v418 y417 (IntKind.u64.wrap (ji23)) [.int .u64 (IntKind.u64.wrap (ji23))] (fun _ => True) (fun _ => False) rfl rfl ?aP (fun _ hk => hk.elim) ?aF ?aO ?aB ?aS ?aL ?_; (case aP => exact rfl); (case aB => exact (by repeat (first | (with_reducible first | exact HB.out | apply below_alloc | apply pw_below_drewN | apply below_drew1 | refine below_set ?_ GE412.out) | exact HB.out))); (case aF => exact (fun _ _ => trivial)); (case aO => exact (by (with_reducible repeat (first | apply Kd.R_alloc | apply Kd.R_drewN | apply Kd.R_drew)); exact HO419.out)); (case aS => exact (below_size (by repeat (first | (with_reducible first | exact HB.out | apply below_alloc | apply pw_below_drewN | apply below_drew1 | refine below_set ?_ GE412.out) | exact HB.out)))); (case aL => have := LMc24.out; omega); intro v421 w28 ho hb hg hat; rw [← Ny420.out] at ho; have n0_ := Aside0.mk (blk_grown (g := gb412) (o := .cells #[.int .u16 ((rd_T37 l0 a1).f0), .int .u8 ((rd_T37 l0 a1).f1), .int .u8 ((rd_T37 l0 a1).f2), .int .u32 ((rd_T37 l0 a1).f3)] 37 (0, 0)) (by (with_reducible repeat (first | refine blk_drewN ?_ _ | refine blk_drew ?_ | refine blk_alloc ?_ _)); exact BK412.out) hg (Kd.R_ne HO419.out BK412.out (by decide))); have n1_ := Aside0.mk (hb); have n2_ := Aside0.mk (ho); clear BK412; clear HB; clear HO419; have BK412 := n0_; have HB := n1_; have HO422 := n2_; clear n0_ n1_ n2_; clear ho hb hg hat))
                        go_meet
                        case rel => exact ⟨_, (y420), H', ⟨by have := HJ2.out; first | omega | exact Nat.le_refl _⟩, ⟨by (with_reducible repeat (first | apply Kd.R_alloc | apply Kd.R_drewN | apply Kd.R_drew)); exact HO422.out⟩, ⟨by (with_reducible repeat (first | refine blk_drewN ?_ _ | refine blk_drew ?_ | refine blk_alloc ?_ _)); exact BK412.out⟩, ⟨by repeat (first | (with_reducible first | exact HB.out | apply below_alloc | apply pw_below_drewN | apply below_drew1 | refine below_set ?_ GE412.out) | exact HB.out)⟩⟩
                      · rw [if_neg c24] at H
                        exact absurd H (by simp)
                  · rw [if_neg c18] at H
                    exact absurd H (by simp)
                · replace c16 := Bool.eq_false_iff.mpr c16
                  subst c16
                  have H1 : ((insn_Ends.f ((rd_T37 l0 a1).f0)).bind fun t423 => (if t423 = true then (check_Next.j1 kj2 l0 a1 ([] : List Int)) else (if ([] : List Int).length < 17592186044416 then (check_Next.j1 kj2 l0 a1 (([] : List Int) ++ [0])) else (none)))) = some r := by rw [if_neg (show ¬ (false = true) by decide)] at H; exact H
                  clear H
                  have H := H1
                  clear H1
                  replace H := Option.bind_eq_some_iff.mp H
                  obtain ⟨t423, A290, H⟩ := H
                  replace H : (if t423 = true then (check_Next.j1 kj2 l0 a1 ([] : List Int)) else (if ([] : List Int).length < 17592186044416 then (check_Next.j1 kj2 l0 a1 (([] : List Int) ++ [0])) else (none))) = some r := H
                  have A29 := Aside0.mk A290
                  clear A290
                  by_cases c30 : t423 = true
                  · subst c30
                    have H1 : (check_Next.j1 kj2 l0 a1 ([] : List Int)) = some r := by rw [if_pos rfl] at H; exact H
                    clear H
                    have H := H1
                    clear H1
                    have H' := Aside0.mk H
                    clear H
                    have hcz31_0 : w9.cell? ⟨gb412, 0, none⟩ = some (.int .u16 0) := (blk_cell BK412.out 0).trans rfl
                    have hcz31_1 : w9.cell? ⟨gb412, 1, none⟩ = some (.int .u8 0) := (blk_cell BK412.out 1).trans rfl
                    have hcz31_2 : w9.cell? ⟨gb412, 2, none⟩ = some (.int .u8 0) := (blk_cell BK412.out 2).trans rfl
                    have hcz31_3 : w9.cell? ⟨gb412, 3, none⟩ = some (.int .u32 0) := (blk_cell BK412.out 3).trans rfl
                    have hfz31_0 := blk_frozen BK412.out 0
                    have hfz31_1 := blk_frozen BK412.out 1
                    have hfz31_2 := blk_frozen BK412.out 2
                    have hfz31_3 := blk_frozen BK412.out 3
                    go_wp2_with (first | ((with_reducible refine gate_callee (f := 23) rfl ?_); refine goesL_ (some 35) rfl rfl Try.func23 (by kernel_rfl) rfl #[.int .u16 ((rd_T37 l0 a1).f0)] rfl (by (try simp only [List.map_toArray, List.map_cons, List.map_nil]); first | done | rfl | (simp only [List.length_drop, List.length_take]; rfl)) ?_; (with_reducible refine (insn_Jumps.calls ((rd_T37 l0 a1).f0) false _ A15.out).mono ?_); rintro e w' ⟨rfl, ⟨nd, rfl⟩⟩; refine ⟨_, rfl, ?_⟩) | ((with_reducible refine gate_callee (f := 24) rfl ?_); refine goesL_ (some 62) rfl rfl Try.func24 (by kernel_rfl) rfl #[.int .u16 ((rd_T37 l0 a1).f0)] rfl (by (try simp only [List.map_toArray, List.map_cons, List.map_nil]); first | done | rfl | (simp only [List.length_drop, List.length_take]; rfl)) ?_; (with_reducible refine (insn_Ends.calls ((rd_T37 l0 a1).f0) true _ A29.out).mono ?_); rintro e w' ⟨rfl, ⟨nd, rfl⟩⟩; refine ⟨_, rfl, ?_⟩))
                    go_meet
                    case rel => exact ⟨_, (([] : List Int)), H', ⟨by have := HJ2.out; first | omega | exact Nat.le_refl _⟩, ⟨by first | exact Kd.R_nil _ _ _ _ _ | exact Kd.N_nil _ _ _ _ _ | exact Kd.V_nil _ _ _ _ _ | exact Kd.Q_nil _ _ _ _ _ | exact Kd.S_nil _ _ _ _ _⟩, ⟨by (with_reducible repeat (first | refine blk_drewN ?_ _ | refine blk_drew ?_ | refine blk_alloc ?_ _)); refine blk_put (cs := #[.int .u16 ((rd_T37 l0 a1).f0), .int .u8 ((rd_T37 l0 a1).f1), .int .u8 ((rd_T37 l0 a1).f2), .int .u32 0]) ?_ 3 _ rfl; (with_reducible repeat (first | refine blk_drewN ?_ _ | refine blk_drew ?_ | refine blk_alloc ?_ _)); refine blk_put (cs := #[.int .u16 ((rd_T37 l0 a1).f0), .int .u8 ((rd_T37 l0 a1).f1), .int .u8 0, .int .u32 0]) ?_ 2 _ rfl; (with_reducible repeat (first | refine blk_drewN ?_ _ | refine blk_drew ?_ | refine blk_alloc ?_ _)); refine blk_put (cs := #[.int .u16 ((rd_T37 l0 a1).f0), .int .u8 0, .int .u8 0, .int .u32 0]) ?_ 1 _ rfl; (with_reducible repeat (first | refine blk_drewN ?_ _ | refine blk_drew ?_ | refine blk_alloc ?_ _)); refine blk_put (cs := #[.int .u16 0, .int .u8 0, .int .u8 0, .int .u32 0]) ?_ 0 _ rfl; (with_reducible repeat (first | refine blk_drewN ?_ _ | refine blk_drew ?_ | refine blk_alloc ?_ _)); exact BK412.out⟩, ⟨by repeat (first | (with_reducible first | exact HB.out | apply below_alloc | apply pw_below_drewN | apply below_drew1 | refine below_set ?_ GE412.out) | exact HB.out)⟩⟩
                  · replace c30 := Bool.eq_false_iff.mpr c30
                    subst c30
                    have H1 : (if ([] : List Int).length < 17592186044416 then (check_Next.j1 kj2 l0 a1 (([] : List Int) ++ [0])) else (none)) = some r := by rw [if_neg (show ¬ (false = true) by decide)] at H; exact H
                    clear H
                    have H := H1
                    clear H1
                    by_cases c32 : ([] : List Int).length < 17592186044416
                    · rw [if_pos c32] at H
                      have LMc32 := Aside0.mk c32
                      clear c32
                      obtain ⟨y424, hy424⟩ : ∃ y_ : List Int, y_ = (([] : List Int) ++ [0]) := ⟨_, rfl⟩
                      replace H : (check_Next.j1 kj2 l0 a1 y424) = some r := by first | (rw [hy424]; with_reducible exact H) | (have H2_ := (Option.bind_some _ _).symm.trans H; rw [hy424]; with_reducible exact H2_) | (have H2_ := (Option.bind_some _ _).symm.trans H; with_reducible exact H2_) | with_reducible exact H | (rw [hy424]; exact H) | exact H
                      have Ny424 := Aside0.mk hy424
                      clear hy424
                      have H' := Aside0.mk H
                      clear H
                      have hcz33_0 : w9.cell? ⟨gb412, 0, none⟩ = some (.int .u16 0) := (blk_cell BK412.out 0).trans rfl
                      have hcz33_1 : w9.cell? ⟨gb412, 1, none⟩ = some (.int .u8 0) := (blk_cell BK412.out 1).trans rfl
                      have hcz33_2 : w9.cell? ⟨gb412, 2, none⟩ = some (.int .u8 0) := (blk_cell BK412.out 2).trans rfl
                      have hcz33_3 : w9.cell? ⟨gb412, 3, none⟩ = some (.int .u32 0) := (blk_cell BK412.out 3).trans rfl
                      have hfz33_0 := blk_frozen BK412.out 0
                      have hfz33_1 := blk_frozen BK412.out 1
                      have hfz33_2 := blk_frozen BK412.out 2
                      have hfz33_3 := blk_frozen BK412.out 3
                      go_wp2_with (first | ((with_reducible refine gate_callee (f := 23) rfl ?_); refine goesL_ (some 35) rfl rfl Try.func23 (by kernel_rfl) rfl #[.int .u16 ((rd_T37 l0 a1).f0)] rfl (by (try simp only [List.map_toArray, List.map_cons, List.map_nil]); first | done | rfl | (simp only [List.length_drop, List.length_take]; rfl)) ?_; (with_reducible refine (insn_Jumps.calls ((rd_T37 l0 a1).f0) false _ A15.out).mono ?_); rintro e w' ⟨rfl, ⟨nd, rfl⟩⟩; refine ⟨_, rfl, ?_⟩) | ((with_reducible refine gate_callee (f := 24) rfl ?_); refine goesL_ (some 62) rfl rfl Try.func24 (by kernel_rfl) rfl #[.int .u16 ((rd_T37 l0 a1).f0)] rfl (by (try simp only [List.map_toArray, List.map_cons, List.map_nil]); first | done | rfl | (simp only [List.length_drop, List.length_take]; rfl)) ?_; (with_reducible refine (insn_Ends.calls ((rd_T37 l0 a1).f0) false _ A29.out).mono ?_); rintro e w' ⟨rfl, ⟨nd, rfl⟩⟩; refine ⟨_, rfl, ?_⟩) | ((with_reducible refine gate_builtin (b := .append) (xs := #[.tmp 64, .tmp 65]) rfl ?_); (try (refine gate_guard (by rfl) ?_; dsimp only)); at_builtin; refine Kd.R_append (Kd.int .u64) (w0 := w) w.heap.size rfl (.tmp 64) (.tmp 65) 59 24 (.int .u64 0) 8 rfl Try.underlying59 info24 rfl (by decide) (by omega) (.slice none 0 0) ([] : List Int) 0 [.int .u64 0] (fun _ => True) (fun _ => False) rfl (by first | (go_simp; done) | (go_simp; rfl)) ?aP (fun _ hk => hk.elim) ?aF ?aO ?aB ?aS ?aL ?_; (case aP => exact rfl); (case aB => exact (by repeat (first | (with_reducible first | exact HB.out | apply below_alloc | apply pw_below_drewN | apply below_drew1 | refine below_set ?_ GE412.out) | exact HB.out))); (case aF => exact (fun _ _ => trivial)); (case aO => exact ((Kd.R_nil _ _ _ _ (fun _ => True)))); (case aS => exact (below_size (by repeat (first | (with_reducible first | exact HB.out | apply below_alloc | apply pw_below_drewN | apply below_drew1 | refine below_set ?_ GE412.out) | exact HB.out)))); (case aL => have := LMc32.out; omega); intro v425 w34 ho hb hg hat; rw [← Ny424.out] at ho; have n0_ := Aside0.mk (blk_grown (g := gb412) (o := .cells #[.int .u16 ((rd_T37 l0 a1).f0), .int .u8 ((rd_T37 l0 a1).f1), .int .u8 ((rd_T37 l0 a1).f2), .int .u32 ((rd_T37 l0 a1).f3)] 37 (0, 0)) (by (with_reducible repeat (first | refine blk_drewN ?_ _ | refine blk_drew ?_ | refine blk_alloc ?_ _)); refine blk_put (cs := #[.int .u16 ((rd_T37 l0 a1).f0), .int .u8 ((rd_T37 l0 a1).f1), .int .u8 ((rd_T37 l0 a1).f2), .int .u32 0]) ?_ 3 _ rfl; (with_reducible repeat (first | refine blk_drewN ?_ _ | refine blk_drew ?_ | refine blk_alloc ?_ _)); refine blk_put (cs := #[.int .u16 ((rd_T37 l0 a1).f0), .int .u8 ((rd_T37 l0 a1).f1), .int .u8 0, .int .u32 0]) ?_ 2 _ rfl; (with_reducible repeat (first | refine blk_drewN ?_ _ | refine blk_drew ?_ | refine blk_alloc ?_ _)); refine blk_put (cs := #[.int .u16 ((rd_T37 l0 a1).f0), .int .u8 0, .int .u8 0, .int .u32 0]) ?_ 1 _ rfl; (with_reducible repeat (first | refine blk_drewN ?_ _ | refine blk_drew ?_ | refine blk_alloc ?_ _)); refine blk_put (cs := #[.int .u16 0, .int .u8 0, .int .u8 0, .int .u32 0]) ?_ 0 _ rfl; (with_reducible repeat (first | refine blk_drewN ?_ _ | refine blk_drew ?_ | refine blk_alloc ?_ _)); exact BK412.out) hg (by simp [Value.ownBlock])); have n1_ := Aside0.mk (hb); have n2_ := Aside0.mk (ho); clear BK412; clear HB; have BK412 := n0_; have HB := n1_; have HO426 := n2_; clear n0_ n1_ n2_; clear ho hb hg hat))
                      go_meet
                      case rel => exact ⟨_, (y424), H', ⟨by have := HJ2.out; first | omega | exact Nat.le_refl _⟩, ⟨by (with_reducible repeat (first | apply Kd.R_alloc | apply Kd.R_drewN | apply Kd.R_drew)); exact HO426.out⟩, ⟨by (with_reducible repeat (first | refine blk_drewN ?_ _ | refine blk_drew ?_ | refine blk_alloc ?_ _)); exact BK412.out⟩, ⟨by repeat (first | (with_reducible first | exact HB.out | apply below_alloc | apply pw_below_drewN | apply below_drew1 | refine below_set ?_ GE412.out) | exact HB.out)⟩⟩
                    · rw [if_neg c32] at H
                      exact absurd H (by simp)
            case rest =>
              clear HC8
              try clear c1
              try clear c2
              try clear p2
              try clear c3
              try clear c4
              try clear c4b0
              try clear p4
              try clear q4
              try clear hx4
              try clear c5
              try clear c6
              try clear c6b0
              try clear c7
              try clear c7b0
              try clear c11
              try clear c11b0
              try clear c11b1
              try clear c12
              try clear c16
              try clear c18
              try clear c19
              try clear c19b0
              try clear c19b1
              try clear c23
              try clear c24
              try clear c30
              try clear c32
              try clear hcz10_0
              try clear hcz10_1
              try clear hcz10_2
              try clear hcz10_3
              try clear hcz13_0
              try clear hcz13_1
              try clear hcz13_2
              try clear hcz13_3
              try clear hcz20_0
              try clear hcz20_1
              try clear hcz20_2
              try clear hcz20_3
              try clear hcz22_0
              try clear hcz22_1
              try clear hcz22_2
              try clear hcz22_3
              try clear hcz25_0
              try clear hcz25_1
              try clear hcz25_2
              try clear hcz25_3
              try clear hcz27_0
              try clear hcz27_1
              try clear hcz27_2
              try clear hcz27_3
              try clear hcz31_0
              try clear hcz31_1
              try clear hcz31_2
              try clear hcz31_3
              try clear hcz33_0
              try clear hcz33_1
              try clear hcz33_2
              try clear hcz33_3
              try clear hfz10_0
              try clear hfz10_1
              try clear hfz10_2
              try clear hfz10_3
              try clear hfz13_0
              try clear hfz13_1
              try clear hfz13_2
              try clear hfz13_3
              try clear hfz20_0
              try clear hfz20_1
              try clear hfz20_2
              try clear hfz20_3
              try clear hfz22_0
              try clear hfz22_1
              try clear hfz22_2
              try clear hfz22_3
              try clear hfz25_0
              try clear hfz25_1
              try clear hfz25_2
              try clear hfz25_3
              try clear hfz27_0
              try clear hfz27_1
              try clear hfz27_2
              try clear hfz27_3
              try clear hfz31_0
              try clear hfz31_1
              try clear hfz31_2
              try clear hfz31_3
              try clear hfz33_0
              try clear hfz33_1
              try clear hfz33_2
              try clear hfz33_3
              try clear hx411_0
              try clear hx411_1
              try clear hx411_2
              try clear hx411_3
              try clear p2
              try clear p411
              try clear q411
              obtain ⟨kq, x5_7, HA, HJ7, HO_5, BK412, HB⟩ := hcut
              cases kq with
              | zero => exact absurd HA.out (by simp [check_Next.j1])
              | succ kj7 =>
                have H := HA.out
                clear HA
                simp only [check_Next.j1] at H
                have H' := Aside0.mk H
                clear H
                obtain ⟨Ao35, co35, eo35⟩ := Kd.R_slice HO_5.out
                subst eo35
                go_wp2
                go_loopg [7, 69] kj7 (fun kq v7 v69 w' => ∃ (x7_3 : List Int) (x69_3 : Int), v69 = .int .i64 x69_3 ∧ Aside0 (check_Next.l0 kq l0 a1 x7_3 x5_7 (x5_7.length : Int) x69_3 = some r) ∧ Aside0 (kq ≤ kj7) ∧ Aside0 (Kd.R (Kd.int .i64) 3 w' w.heap.size (fun _ => True) v7 x7_3) ∧ Aside0 (Kd.R (Kd.int .u64) 24 w' w.heap.size (fun _ => True) (.slice Ao35 x5_7.length co35) x5_7) ∧ Aside0 (w'.heap[gb412]? = some (.cells #[.int .u16 ((rd_T37 l0 a1).f0), .int .u8 ((rd_T37 l0 a1).f1), .int .u8 ((rd_T37 l0 a1).f2), .int .u32 ((rd_T37 l0 a1).f3)] 37 (0, 0))) ∧ Aside0 (Below w.heap.size w w'))
                case atStart => exact ⟨(([] : List Int)), (0), (by first | rfl | (simp; done) | (simp [*]; done)), H', ⟨Nat.le_refl _⟩, ⟨by first | exact Kd.R_nil _ _ _ _ _ | exact Kd.N_nil _ _ _ _ _ | exact Kd.V_nil _ _ _ _ _ | exact Kd.Q_nil _ _ _ _ _ | exact Kd.S_nil _ _ _ _ _⟩, ⟨by (with_reducible repeat (first | apply Kd.R_alloc | apply Kd.R_drewN | apply Kd.R_drew)); exact HO_5.out⟩, ⟨by (with_reducible repeat (first | refine blk_drewN ?_ _ | refine blk_drew ?_ | refine blk_alloc ?_ _)); exact BK412.out⟩, ⟨by repeat (first | (with_reducible first | exact HB.out | apply below_alloc | apply pw_below_drewN | apply below_drew1 | refine below_set ?_ GE412.out) | exact HB.out)⟩⟩
                case round =>
                  clear H'
                  try clear c1
                  try clear c2
                  try clear p2
                  try clear c3
                  try clear c4
                  try clear c4b0
                  try clear p4
                  try clear q4
                  try clear hx4
                  try clear c5
                  try clear c6
                  try clear c6b0
                  try clear c7
                  try clear c7b0
                  try clear c11
                  try clear c11b0
                  try clear c11b1
                  try clear c12
                  try clear c16
                  try clear c18
                  try clear c19
                  try clear c19b0
                  try clear c19b1
                  try clear c23
                  try clear c24
                  try clear c30
                  try clear c32
                  try clear hcz10_0
                  try clear hcz10_1
                  try clear hcz10_2
                  try clear hcz10_3
                  try clear hcz13_0
                  try clear hcz13_1
                  try clear hcz13_2
                  try clear hcz13_3
                  try clear hcz20_0
                  try clear hcz20_1
                  try clear hcz20_2
                  try clear hcz20_3
                  try clear hcz22_0
                  try clear hcz22_1
                  try clear hcz22_2
                  try clear hcz22_3
                  try clear hcz25_0
                  try clear hcz25_1
                  try clear hcz25_2
                  try clear hcz25_3
                  try clear hcz27_0
                  try clear hcz27_1
                  try clear hcz27_2
                  try clear hcz27_3
                  try clear hcz31_0
                  try clear hcz31_1
                  try clear hcz31_2
                  try clear hcz31_3
                  try clear hcz33_0
                  try clear hcz33_1
                  try clear hcz33_2
                  try clear hcz33_3
                  try clear hfz10_0
                  try clear hfz10_1
                  try clear hfz10_2
                  try clear hfz10_3
                  try clear hfz13_0
                  try clear hfz13_1
                  try clear hfz13_2
                  try clear hfz13_3
                  try clear hfz20_0
                  try clear hfz20_1
                  try clear hfz20_2
                  try clear hfz20_3
                  try clear hfz22_0
                  try clear hfz22_1
                  try clear hfz22_2
                  try clear hfz22_3
                  try clear hfz25_0
                  try clear hfz25_1
                  try clear hfz25_2
                  try clear hfz25_3
                  try clear hfz27_0
                  try clear hfz27_1
                  try clear hfz27_2
                  try clear hfz27_3
                  try clear hfz31_0
                  try clear hfz31_1
                  try clear hfz31_2
                  try clear hfz31_3
                  try clear hfz33_0
                  try clear hfz33_1
                  try clear hfz33_2
                  try clear hfz33_3
                  try clear hx411_0
                  try clear hx411_1
                  try clear hx411_2
                  try clear hx411_3
                  try clear p2
                  try clear p4
                  try clear p411
                  try clear q4
                  try clear q411
                  obtain ⟨x7_3, x69_3, rfl, HA, HK3, HO_7, HO_67, BK412, HB⟩ := hrel
                  cases gk with
                  | zero => exact absurd HA.out (by simp [check_Next.l0])
                  | succ k3 =>
                    have H := HA.out
                    clear HA
                    simp only [check_Next.l0] at H
                    by_cases c36 : x69_3 < (x5_7.length : Int)
                    · rw [if_pos c36] at H
                      have c36b0 : decide (x69_3 < (x5_7.length : Int)) = true := decide_eq_true c36
                      clear c36
                      by_cases c37 : 0 ≤ x69_3
                      · rw [if_pos c37] at H
                        have c37b0 : decide (0 ≤ x69_3) = true := decide_eq_true c37
                        clear c37
                        by_cases c38 : x69_3 < (x5_7.length : Int)
                        · rw [if_pos c38] at H
                          have c38b0 : decide (x69_3 < (x5_7.length : Int)) = true := decide_eq_true c38
                          clear c38
                          by_cases c39 : (rd x5_7 x69_3) < (IntKind.u64.wrap (wrap64 ((wrap64 ((l0.length : Int) - 1)) - a1)))
                          · rw [if_pos c39] at H
                            have c39b0 : decide ((rd x5_7 x69_3) < (IntKind.u64.wrap (wrap64 ((wrap64 ((l0.length : Int) - 1)) - a1)))) = true := decide_eq_true c39
                            clear c39
                            by_cases c40 : x7_3.length < 17592186044416
                            · rw [if_pos c40] at H
                              have LMc40 := Aside0.mk c40
                              clear c40
                              obtain ⟨y428, hy428⟩ : ∃ y_ : List Int, y_ = (x7_3 ++ [wrap64 ((wrap64 (a1 + 1)) + (wrap64 (rd x5_7 x69_3)))]) := ⟨_, rfl⟩
                              replace H : (check_Next.l0 k3 l0 a1 y428 x5_7 (x5_7.length : Int) (wrap64 (x69_3 + 1))) = some r := by first | (rw [hy428]; with_reducible exact H) | (have H2_ := (Option.bind_some _ _).symm.trans H; rw [hy428]; with_reducible exact H2_) | (have H2_ := (Option.bind_some _ _).symm.trans H; with_reducible exact H2_) | with_reducible exact H | (rw [hy428]; exact H) | exact H
                              have Ny428 := Aside0.mk hy428
                              clear hy428
                              have H' := Aside0.mk H
                              clear H
                              have p427 : 0 ≤ (x69_3 : Int) := of_decide_eq_true (by first | (with_reducible assumption) | assumption)
                              have q427 : x69_3 < (x5_7.length : Int) := of_decide_eq_true (by first | (with_reducible assumption) | assumption)
                              obtain ⟨ad427, e427, hx427_0⟩ := Kd.at_int (Kd.R_reads' HO_67.out).2.2 x69_3 p427 q427
                              cases e427
                              replace p427 := eq_true p427
                              replace q427 := eq_true q427
                              go_wp2_with (first | ((with_reducible refine gate_builtin (b := .append) (xs := #[.tmp 81, .tmp 87]) rfl ?_); (try (refine gate_guard (by rfl) ?_; dsimp only)); at_builtin; refine Kd.R_append (Kd.int .i64) (w0 := w) w.heap.size rfl (.tmp 81) (.tmp 87) 40 3 (.int .i64 0) 8 rfl Try.underlying40 info3 rfl (by decide) (by omega) u7 x7_3 (wrap64 ((wrap64 (a1 + 1)) + (wrap64 (rd x5_7 x69_3)))) [.int .i64 (wrap64 ((wrap64 (a1 + 1)) + (wrap64 (rd x5_7 x69_3))))] (fun _ => True) (fun _ => False) rfl rfl ?aP (fun _ hk => hk.elim) ?aF ?aO ?aB ?aS ?aL ?_; (case aP => exact rfl); (case aB => exact (by repeat (first | (with_reducible first | exact HB.out | apply below_alloc | apply pw_below_drewN | apply below_drew1 | refine below_set ?_ GE412.out) | exact HB.out))); (case aF => exact (fun _ _ => trivial)); (case aO => exact (by (with_reducible repeat (first | apply Kd.R_alloc | apply Kd.R_drewN | apply Kd.R_drew)); exact HO_7.out)); (case aS => exact (below_size (by repeat (first | (with_reducible first | exact HB.out | apply below_alloc | apply pw_below_drewN | apply below_drew1 | refine below_set ?_ GE412.out) | exact HB.out)))); (case aL => have := LMc40.out; omega); intro v429 w41 ho hb hg hat; rw [← Ny428.out] at ho; have n0_ := Aside0.mk (Kd.R_over' (by (with_reducible repeat (first | apply Kd.R_alloc | apply Kd.R_drewN | apply Kd.R_drew)); exact HO_67.out) (Kd.R_typed (by (with_reducible repeat (first | apply Kd.R_alloc | apply Kd.R_drewN | apply Kd.R_drew)); exact HO_7.out)) (by decide) hg); have n1_ := Aside0.mk (blk_grown (g := gb412) (o := .cells #[.int .u16 ((rd_T37 l0 a1).f0), .int .u8 ((rd_T37 l0 a1).f1), .int .u8 ((rd_T37 l0 a1).f2), .int .u32 ((rd_T37 l0 a1).f3)] 37 (0, 0)) (by (with_reducible repeat (first | refine blk_drewN ?_ _ | refine blk_drew ?_ | refine blk_alloc ?_ _)); exact BK412.out) hg (Kd.R_ne HO_7.out BK412.out (by decide))); have n2_ := Aside0.mk (hb); have n3_ := Aside0.mk (ho); clear HO_67; clear BK412; clear HB; clear HO_7; have HO_67 := n0_; have BK412 := n1_; have HB := n2_; have HO430 := n3_; clear n0_ n1_ n2_ n3_; clear ho hb hg hat))
                              go_roundg k3
                              case measure => have := HJ2.out; have := HJ7.out; have := HK3.out; omega
                              case rel => exact ⟨(y428), (wrap64 (x69_3 + 1)), (by first | rfl | (simp; done) | (simp [*]; done)), H', ⟨by have := HJ2.out; have := HJ7.out; have := HK3.out; omega⟩, ⟨by (with_reducible repeat (first | apply Kd.R_alloc | apply Kd.R_drewN | apply Kd.R_drew)); exact HO430.out⟩, ⟨by (with_reducible repeat (first | apply Kd.R_alloc | apply Kd.R_drewN | apply Kd.R_drew)); exact HO_67.out⟩, ⟨by (with_reducible repeat (first | refine blk_drewN ?_ _ | refine blk_drew ?_ | refine blk_alloc ?_ _)); exact BK412.out⟩, ⟨by repeat (first | (with_reducible first | exact HB.out | apply below_alloc | apply pw_below_drewN | apply below_drew1 | refine below_set ?_ GE412.out) | exact HB.out)⟩⟩
                            · rw [if_neg c40] at H
                              exact absurd H (by simp)
                          · rw [if_neg c39] at H
                            have c39b0 : decide ((rd x5_7 x69_3) < (IntKind.u64.wrap (wrap64 ((wrap64 ((l0.length : Int) - 1)) - a1)))) = false := decide_eq_false c39
                            clear c39
                            have H' := Aside0.mk H
                            clear H
                            have p427 : 0 ≤ (x69_3 : Int) := of_decide_eq_true (by first | (with_reducible assumption) | assumption)
                            have q427 : x69_3 < (x5_7.length : Int) := of_decide_eq_true (by first | (with_reducible assumption) | assumption)
                            obtain ⟨ad427, e427, hx427_0⟩ := Kd.at_int (Kd.R_reads' HO_67.out).2.2 x69_3 p427 q427
                            cases e427
                            replace p427 := eq_true p427
                            replace q427 := eq_true q427
                            go_wp2
                            go_roundg k3
                            case measure => have := HJ2.out; have := HJ7.out; have := HK3.out; omega
                            case rel => exact ⟨(x7_3), (wrap64 (x69_3 + 1)), (by first | rfl | (simp; done) | (simp [*]; done)), H', ⟨by have := HJ2.out; have := HJ7.out; have := HK3.out; omega⟩, ⟨by (with_reducible repeat (first | apply Kd.R_alloc | apply Kd.R_drewN | apply Kd.R_drew)); exact HO_7.out⟩, ⟨by (with_reducible repeat (first | apply Kd.R_alloc | apply Kd.R_drewN | apply Kd.R_drew)); exact HO_67.out⟩, ⟨by (with_reducible repeat (first | refine blk_drewN ?_ _ | refine blk_drew ?_ | refine blk_alloc ?_ _)); exact BK412.out⟩, ⟨by repeat (first | (with_reducible first | exact HB.out | apply below_alloc | apply pw_below_drewN | apply below_drew1 | refine below_set ?_ GE412.out) | exact HB.out)⟩⟩
                        · rw [if_neg c38] at H
                          exact absurd H (by simp)
                      · rw [if_neg c37] at H
                        exact absurd H (by simp)
                    · rw [if_neg c36] at H
                      have c36b0 : decide (x69_3 < (x5_7.length : Int)) = false := decide_eq_false c36
                      clear c36
                      obtain rfl := Option.some.inj H
                      go_wp2
                      go_ret
                      exact ⟨_, by first | rfl | (simp [errW_none, errW_some] <;> rfl) | (simp [*, errW_none, errW_some] <;> rfl), by (with_reducible repeat (first | apply Kd.R_alloc | apply Kd.R_drewN | apply Kd.R_drew)); exact HO_7.out, by repeat (first | (with_reducible first | exact HB.out | apply below_alloc | apply pw_below_drewN | apply below_drew1 | refine below_set ?_ GE412.out) | exact HB.out)⟩
          · rw [if_neg c7] at H
            exact absurd H (by simp)
        · rw [if_neg c6] at H
          exact absurd H (by simp)

end Go.Proofs.Ytdlmnmhlgacpnaa.M
