-- Laid by a program (wip/tools/myprint.py) out of the loaded program's own print: for each Go function a Lean function and the proof of its contract.
import Derived.Test.YtbiccohcikfgeaaMx0
import Derived.Test.YtbiccohcikfgeaaMx4
import Derived.Test.YtbiccohcikfgeaaMx5
import Derived.Test.YtbiccohcikfgeaaMx6
namespace Go.Proofs.Ytbiccohcikfgeaa.M
open Go.RowKit Go.Proofs.YtbiccohcikfgeaaW.PrintWords Go.Proofs.YtbiccohcikfgeaaW.PrintLast Go.Proofs.YtbiccohcikfgeaaW.PrintMore
attribute [local go_sem] max2_int min2_int max_two min_two max_three min_three max_four min_four   -- for this text's walks alone
set_option linter.unusedVariables false
set_option linter.unusedSimpArgs false

/-! ### fairleadref09_One: function 18 -/
def fairleadref09_One.j0 : Nat → ByteArray → Int → Int → Bool → Int → Int → ByteArray → Int → Option (Int × Int × ByteArray × Int × Int)
  | 0, _, _, _, _, _, _, _, _ => none
  | k + 1, x0, x1, x6, x80, x142000, x142001, x142002, x142003 => if x80 = true then (if 0 ≤ x1 then (if x1 ≤ (wrap64 (x1 + 2)) then (if (wrap64 (x1 + 2)) ≤ (x0.size : Int) then (some (x142000, x142001, x0.extract (x1 : Int).toNat ((wrap64 (x1 + 2)) : Int).toNat, x142003, 0)) else (none)) else (none)) else (none)) else (if x6 = 59 then (if 0 ≤ x1 then (if x1 ≤ (wrap64 (x1 + 1)) then (if (wrap64 (x1 + 1)) ≤ (x0.size : Int) then (some (x142000, x142001, x0.extract (x1 : Int).toNat ((wrap64 (x1 + 1)) : Int).toNat, x142003, 0)) else (none)) else (none)) else (none)) else (if x6 = 44 then (if 0 ≤ x1 then (if x1 ≤ (wrap64 (x1 + 1)) then (if (wrap64 (x1 + 1)) ≤ (x0.size : Int) then (some (x142000, x142001, x0.extract (x1 : Int).toNat ((wrap64 (x1 + 1)) : Int).toNat, x142003, 0)) else (none)) else (none)) else (none)) else (if x6 = 60 then (if 0 ≤ x1 then (if x1 ≤ (wrap64 (x1 + 1)) then (if (wrap64 (x1 + 1)) ≤ (x0.size : Int) then (some (x142000, x142001, x0.extract (x1 : Int).toNat ((wrap64 (x1 + 1)) : Int).toNat, x142003, 0)) else (none)) else (none)) else (none)) else (if x6 = 62 then (if 0 ≤ x1 then (if x1 ≤ (wrap64 (x1 + 1)) then (if (wrap64 (x1 + 1)) ≤ (x0.size : Int) then (some (x142000, x142001, x0.extract (x1 : Int).toNat ((wrap64 (x1 + 1)) : Int).toNat, x142003, 0)) else (none)) else (none)) else (none)) else (if x6 = 38 then (if 0 ≤ x1 then (if x1 ≤ (wrap64 (x1 + 1)) then (if (wrap64 (x1 + 1)) ≤ (x0.size : Int) then (some (x142000, x142001, x0.extract (x1 : Int).toNat ((wrap64 (x1 + 1)) : Int).toNat, x142003, 0)) else (none)) else (none)) else (none)) else (some (0, 0, (⟨#[]⟩ : ByteArray), 0, 5)))))))
def fairleadref09_One.f (k : Nat) (a0 : ByteArray) (a1 : Int) : Option (Int × Int × ByteArray × Int × Int) := if 0 ≤ a1 then (if a1 < (a0.size : Int) then ((fairleadref09_small.f (bt a0 a1)).bind fun t142 => (if t142 = true then ((fairleadref09_run.f k a0 a1).bind fun t143 => (if a1 ≤ (wrap64 (a1 + t143)) then (if (wrap64 (a1 + t143)) ≤ (a0.size : Int) then (some (1, a1, a0.extract (a1 : Int).toNat ((wrap64 (a1 + t143)) : Int).toNat, 0, 0)) else (none)) else (none))) else ((fairleadref09_digit.f (bt a0 a1)).bind fun t144 => (if t144 = true then ((fairleadref09_run.f k a0 a1).bind fun t145 => (if a1 ≤ (wrap64 (a1 + t145)) then (if (wrap64 (a1 + t145)) ≤ (a0.size : Int) then ((fairleadref09_Number.f k (a0.extract (a1 : Int).toNat ((wrap64 (a1 + t145)) : Int).toNat)).bind fun bt146 => (if bt146.2 = true then (some (2, a1, a0.extract (a1 : Int).toNat ((wrap64 (a1 + t145)) : Int).toNat, bt146.1, 0)) else (some (0, 0, (⟨#[]⟩ : ByteArray), 0, 6)))) else (none)) else (none))) else (if (wrap64 (a1 + 1)) < (a0.size : Int) then (if 0 ≤ (wrap64 (a1 + 1)) then (if (bt a0 (wrap64 (a1 + 1))) = 61 then (if (bt a0 a1) = 61 then (fairleadref09_One.j0 k a0 a1 (bt a0 a1) true 3 a1 (⟨#[]⟩ : ByteArray) 0) else (if (bt a0 a1) = 33 then (fairleadref09_One.j0 k a0 a1 (bt a0 a1) true 3 a1 (⟨#[]⟩ : ByteArray) 0) else (if (bt a0 a1) = 60 then (fairleadref09_One.j0 k a0 a1 (bt a0 a1) true 3 a1 (⟨#[]⟩ : ByteArray) 0) else (fairleadref09_One.j0 k a0 a1 (bt a0 a1) ((bt a0 a1) == 62) 3 a1 (⟨#[]⟩ : ByteArray) 0)))) else (fairleadref09_One.j0 k a0 a1 (bt a0 a1) false 3 a1 (⟨#[]⟩ : ByteArray) 0)) else (none)) else (fairleadref09_One.j0 k a0 a1 (bt a0 a1) false 3 a1 (⟨#[]⟩ : ByteArray) 0)))))) else (none)) else (none)
theorem fairleadref09_One.mono_l : ∀ k, (∀ y0 y1 y2 y3 y4 y5 y6 y7, LeO (fairleadref09_One.j0 k y0 y1 y2 y3 y4 y5 y6 y7) (fairleadref09_One.j0 (k + 1) y0 y1 y2 y3 y4 y5 y6 y7))
  | 0 => fun _ _ _ _ _ _ _ _ r h => by simp [fairleadref09_One.j0] at h
  | k + 1 => by
    have ih0 := fairleadref09_One.mono_l k
    · intro y0 y1 y2 y3 y4 y5 y6 y7
      unfold fairleadref09_One.j0
      repeat' first
      | (with_reducible exact ih0 _ _ _ _ _ _ _ _)
      | (with_reducible exact fairleadref09_Number.mono _ _)
      | (with_reducible exact fairleadref09_run.mono _ _ _)
      | (with_reducible exact LeO.refl _)
      | (with_reducible exact LeO.none _)
      | (with_reducible refine LeO.ite ?_ ?_)
      | (with_reducible refine LeO.bind ?_ (fun _ => ?_))
      | exact ih0 _ _ _ _ _ _ _ _
      | exact fairleadref09_Number.mono _ _
      | exact fairleadref09_run.mono _ _ _
      | exact LeO.none _
      | refine LeO.ite ?_ ?_
      | refine LeO.bind ?_ (fun _ => ?_)
theorem fairleadref09_One.mono : ∀ a0 a1 k, LeO (fairleadref09_One.f k a0 a1) (fairleadref09_One.f (k + 1) a0 a1) := by
  intro a0 a1 k
  have ih0 := fairleadref09_One.mono_l k
  unfold fairleadref09_One.f
  repeat' first
      | (with_reducible exact ih0 _ _ _ _ _ _ _ _)
      | (with_reducible exact fairleadref09_Number.mono _ _)
      | (with_reducible exact fairleadref09_run.mono _ _ _)
      | (with_reducible exact LeO.refl _)
      | (with_reducible exact LeO.none _)
      | (with_reducible refine LeO.ite ?_ ?_)
      | (with_reducible refine LeO.bind ?_ (fun _ => ?_))
      | exact ih0 _ _ _ _ _ _ _ _
      | exact fairleadref09_Number.mono _ _
      | exact fairleadref09_run.mono _ _ _
      | exact LeO.none _
      | refine LeO.ite ?_ ?_
      | refine LeO.bind ?_ (fun _ => ?_)
set_option maxHeartbeats 8000000 in
set_option maxRecDepth 100000 in
theorem fairleadref09_One.calls (k : Nat) (a0 : ByteArray) (a1 : Int) (r1 : Int) (r2 : Int) (r3 : ByteArray) (r4 : Int) (r5 : Int) (w : World) (h : fairleadref09_One.f k a0 a1 = some (r1, r2, r3, r4, r5)) :
    Calls Try.prog 18 #[.string a0, .int .i64 a1] w fun e w' => e = .returned (.tuple #[.agg #[.int .i64 r1, .int .i64 r2, .string r3, .int .u64 r4], .int .i64 r5]) ∧ Below w.heap.size w w' := by
  have hu31 := Try.underlying31
  have HB := Aside0.mk (Below.refl w.heap.size w)
  have H : (if 0 ≤ a1 then (if a1 < (a0.size : Int) then ((fairleadref09_small.f (bt a0 a1)).bind fun t142 => (if t142 = true then ((fairleadref09_run.f k a0 a1).bind fun t143 => (if a1 ≤ (wrap64 (a1 + t143)) then (if (wrap64 (a1 + t143)) ≤ (a0.size : Int) then (some (1, a1, a0.extract (a1 : Int).toNat ((wrap64 (a1 + t143)) : Int).toNat, 0, 0)) else (none)) else (none))) else ((fairleadref09_digit.f (bt a0 a1)).bind fun t144 => (if t144 = true then ((fairleadref09_run.f k a0 a1).bind fun t145 => (if a1 ≤ (wrap64 (a1 + t145)) then (if (wrap64 (a1 + t145)) ≤ (a0.size : Int) then ((fairleadref09_Number.f k (a0.extract (a1 : Int).toNat ((wrap64 (a1 + t145)) : Int).toNat)).bind fun bt146 => (if bt146.2 = true then (some (2, a1, a0.extract (a1 : Int).toNat ((wrap64 (a1 + t145)) : Int).toNat, bt146.1, 0)) else (some (0, 0, (⟨#[]⟩ : ByteArray), 0, 6)))) else (none)) else (none))) else (if (wrap64 (a1 + 1)) < (a0.size : Int) then (if 0 ≤ (wrap64 (a1 + 1)) then (if (bt a0 (wrap64 (a1 + 1))) = 61 then (if (bt a0 a1) = 61 then (fairleadref09_One.j0 k a0 a1 (bt a0 a1) true 3 a1 (⟨#[]⟩ : ByteArray) 0) else (if (bt a0 a1) = 33 then (fairleadref09_One.j0 k a0 a1 (bt a0 a1) true 3 a1 (⟨#[]⟩ : ByteArray) 0) else (if (bt a0 a1) = 60 then (fairleadref09_One.j0 k a0 a1 (bt a0 a1) true 3 a1 (⟨#[]⟩ : ByteArray) 0) else (fairleadref09_One.j0 k a0 a1 (bt a0 a1) ((bt a0 a1) == 62) 3 a1 (⟨#[]⟩ : ByteArray) 0)))) else (fairleadref09_One.j0 k a0 a1 (bt a0 a1) false 3 a1 (⟨#[]⟩ : ByteArray) 0)) else (none)) else (fairleadref09_One.j0 k a0 a1 (bt a0 a1) false 3 a1 (⟨#[]⟩ : ByteArray) 0)))))) else (none)) else (none)) = some (r1, r2, r3, r4, r5) := h
  clear h
  by_cases c3 : 0 ≤ a1
  · rw [if_pos c3] at H
    have c3b0 : decide (0 ≤ a1) = true := decide_eq_true c3
    clear c3
    by_cases c4 : a1 < (a0.size : Int)
    · rw [if_pos c4] at H
      have c4b0 : decide (a1 < (a0.size : Int)) = true := decide_eq_true c4
      clear c4
      replace H := Option.bind_eq_some_iff.mp H
      obtain ⟨t142, A60, H⟩ := H
      replace H : (if t142 = true then ((fairleadref09_run.f k a0 a1).bind fun t143 => (if a1 ≤ (wrap64 (a1 + t143)) then (if (wrap64 (a1 + t143)) ≤ (a0.size : Int) then (some (1, a1, a0.extract (a1 : Int).toNat ((wrap64 (a1 + t143)) : Int).toNat, 0, 0)) else (none)) else (none))) else ((fairleadref09_digit.f (bt a0 a1)).bind fun t144 => (if t144 = true then ((fairleadref09_run.f k a0 a1).bind fun t145 => (if a1 ≤ (wrap64 (a1 + t145)) then (if (wrap64 (a1 + t145)) ≤ (a0.size : Int) then ((fairleadref09_Number.f k (a0.extract (a1 : Int).toNat ((wrap64 (a1 + t145)) : Int).toNat)).bind fun bt146 => (if bt146.2 = true then (some (2, a1, a0.extract (a1 : Int).toNat ((wrap64 (a1 + t145)) : Int).toNat, bt146.1, 0)) else (some (0, 0, (⟨#[]⟩ : ByteArray), 0, 6)))) else (none)) else (none))) else (if (wrap64 (a1 + 1)) < (a0.size : Int) then (if 0 ≤ (wrap64 (a1 + 1)) then (if (bt a0 (wrap64 (a1 + 1))) = 61 then (if (bt a0 a1) = 61 then (fairleadref09_One.j0 k a0 a1 (bt a0 a1) true 3 a1 (⟨#[]⟩ : ByteArray) 0) else (if (bt a0 a1) = 33 then (fairleadref09_One.j0 k a0 a1 (bt a0 a1) true 3 a1 (⟨#[]⟩ : ByteArray) 0) else (if (bt a0 a1) = 60 then (fairleadref09_One.j0 k a0 a1 (bt a0 a1) true 3 a1 (⟨#[]⟩ : ByteArray) 0) else (fairleadref09_One.j0 k a0 a1 (bt a0 a1) ((bt a0 a1) == 62) 3 a1 (⟨#[]⟩ : ByteArray) 0)))) else (fairleadref09_One.j0 k a0 a1 (bt a0 a1) false 3 a1 (⟨#[]⟩ : ByteArray) 0)) else (none)) else (fairleadref09_One.j0 k a0 a1 (bt a0 a1) false 3 a1 (⟨#[]⟩ : ByteArray) 0))))) = some (r1, r2, r3, r4, r5) := H
      have A6 := Aside0.mk A60
      clear A60
      by_cases c7 : t142 = true
      · subst c7
        have H1 : ((fairleadref09_run.f k a0 a1).bind fun t143 => (if a1 ≤ (wrap64 (a1 + t143)) then (if (wrap64 (a1 + t143)) ≤ (a0.size : Int) then (some (1, a1, a0.extract (a1 : Int).toNat ((wrap64 (a1 + t143)) : Int).toNat, 0, 0)) else (none)) else (none))) = some (r1, r2, r3, r4, r5) := by rw [if_pos rfl] at H; exact H
        clear H
        have H := H1
        clear H1
        replace H := Option.bind_eq_some_iff.mp H
        obtain ⟨t143, A80, H⟩ := H
        replace H : (if a1 ≤ (wrap64 (a1 + t143)) then (if (wrap64 (a1 + t143)) ≤ (a0.size : Int) then (some (1, a1, a0.extract (a1 : Int).toNat ((wrap64 (a1 + t143)) : Int).toNat, 0, 0)) else (none)) else (none)) = some (r1, r2, r3, r4, r5) := H
        have A8 := Aside0.mk A80
        clear A80
        have c9b0 := eq_true (of_decide_eq_true (by first | (with_reducible assumption) | assumption) : 0 ≤ a1)
        by_cases c10 : a1 ≤ (wrap64 (a1 + t143))
        · rw [if_pos c10] at H
          have c10b0 := eq_true c10
          have c10b1 : decide (a1 ≤ (wrap64 (a1 + t143))) = true := decide_eq_true c10
          by_cases c11 : (wrap64 (a1 + t143)) ≤ (a0.size : Int)
          · rw [if_pos c11] at H
            have c11b0 := eq_true c11
            have c11b1 : decide ((wrap64 (a1 + t143)) ≤ (a0.size : Int)) = true := decide_eq_true c11
            simp only [Option.some.injEq, Prod.mk.injEq] at H
            obtain ⟨rfl, rfl, rfl, rfl, rfl⟩ := H
            go_enter Try.func18, Try.ntmps18
            go_wp2_with (first | ((with_reducible refine gate_dst (N := 4) rfl ?_); refine box_event ?hg (N := 4) ?hd (cs := #[.int .i64 0, .int .i64 0, .string (⟨#[]⟩ : ByteArray), .int .u64 0]) (t := 31) ?hr ?_; (case hd => rfl); (case hg => rfl); (case hr => first | (go_simp; done) | (go_simp; rfl)); intro gb140 hg w12 hbox hb; have n0_ := Aside0.mk (below_step (by repeat (first | (with_reducible first | exact HB.out | apply below_alloc | apply pw_below_drewN | apply below_drew1) | exact HB.out)) hb); have n1_ := Aside0.mk (hbox); have n2_ := Aside0.mk ((by rw [hg]; exact (below_size (by repeat (first | (with_reducible first | exact HB.out | apply below_alloc | apply pw_below_drewN | apply below_drew1) | exact HB.out))) : w.heap.size ≤ gb140)); have n3_ := Aside0.mk ((by rw [hg]; exact (below_size (by repeat (first | (with_reducible first | exact HB.out | apply below_alloc | apply pw_below_drewN | apply below_drew1) | exact HB.out))) : w.heap.size ≤ gb140)); clear HB; have HB := n0_; have BK140 := n1_; have GW140 := n2_; have GE140 := n3_; clear n0_ n1_ n2_ n3_; clear hb hbox hg; have p5 : 0 ≤ (a1 : Int) := of_decide_eq_true (by first | (with_reducible assumption) | assumption); have q5 : a1 < (a0.size : Int) := of_decide_eq_true (by first | (with_reducible assumption) | assumption); have hx5 := bt_at a0 a1; replace p5 := eq_true p5; replace q5 := eq_true q5) | ((with_reducible refine gate_dst (N := 7) rfl ?_); refine box_event ?hg (N := 7) ?hd (cs := #[.int .i64 0, .int .i64 0, .string (⟨#[]⟩ : ByteArray), .int .u64 0]) (t := 31) ?hr ?_; (case hd => rfl); (case hg => rfl); (case hr => first | (go_simp; done) | (go_simp; rfl)); intro gb141 hg w13 hbox hb; have n0_ := Aside0.mk (blk_below (g := gb140) (o := .cells #[.int .i64 0, .int .i64 0, .string (⟨#[]⟩ : ByteArray), .int .u64 0] 31 (0, 0)) (by (with_reducible repeat (first | refine blk_drewN ?_ _ | refine blk_drew ?_ | refine blk_alloc ?_ _)); exact BK140.out) hb); have n1_ := Aside0.mk (below_step (by repeat (first | (with_reducible first | exact HB.out | apply below_alloc | apply pw_below_drewN | apply below_drew1 | refine below_set ?_ GE140.out) | exact HB.out)) hb); have n2_ := Aside0.mk (hbox); have n3_ := Aside0.mk ((by rw [hg]; exact (below_size (by repeat (first | (with_reducible first | exact HB.out | apply below_alloc | apply pw_below_drewN | apply below_drew1 | refine below_set ?_ GE140.out) | exact HB.out))) : w.heap.size ≤ gb141)); have n4_ := Aside0.mk ((by rw [hg]; exact (below_size (by repeat (first | (with_reducible first | exact HB.out | apply below_alloc | apply pw_below_drewN | apply below_drew1 | refine below_set ?_ GE140.out) | exact HB.out))) : w.heap.size ≤ gb141)); have n5_ := Aside0.mk ((by rw [hg]; exact Nat.ne_of_lt (blk_lt (g := gb140) (o := .cells #[.int .i64 0, .int .i64 0, .string (⟨#[]⟩ : ByteArray), .int .u64 0] 31 (0, 0)) (by (with_reducible repeat (first | refine blk_drewN ?_ _ | refine blk_drew ?_ | refine blk_alloc ?_ _)); exact BK140.out)) : gb140 ≠ gb141)); have n6_ := Aside0.mk ((by rw [hg]; exact Nat.ne_of_gt (blk_lt (g := gb140) (o := .cells #[.int .i64 0, .int .i64 0, .string (⟨#[]⟩ : ByteArray), .int .u64 0] 31 (0, 0)) (by (with_reducible repeat (first | refine blk_drewN ?_ _ | refine blk_drew ?_ | refine blk_alloc ?_ _)); exact BK140.out)) : gb141 ≠ gb140)); clear BK140; clear HB; have BK140 := n0_; have HB := n1_; have BK141 := n2_; have GW141 := n3_; have GE141 := n4_; have NB140_141 := n5_; have NB141_140 := n6_; clear n0_ n1_ n2_ n3_ n4_ n5_ n6_; clear hb hbox hg; have hnb14 := NB141_140.out; have hnc14 := NB140_141.out; have hcz15_0 : w13.cell? ⟨gb141, 0, none⟩ = some (.int .i64 0) := (blk_cell BK141.out 0).trans rfl; have hcz15_1 : w13.cell? ⟨gb141, 1, none⟩ = some (.int .i64 0) := (blk_cell BK141.out 1).trans rfl; have hcz15_2 : w13.cell? ⟨gb141, 2, none⟩ = some (.string (⟨#[]⟩ : ByteArray)) := (blk_cell BK141.out 2).trans rfl; have hcz15_3 : w13.cell? ⟨gb141, 3, none⟩ = some (.int .u64 0) := (blk_cell BK141.out 3).trans rfl; have hfz15_0 := blk_frozen BK141.out 0; have hfz15_1 := blk_frozen BK141.out 1; have hfz15_2 := blk_frozen BK141.out 2; have hfz15_3 := blk_frozen BK141.out 3) | ((with_reducible refine gate_callee (f := 21) rfl ?_); refine goesL_ (some 16) rfl rfl Try.func21 (by kernel_rfl) rfl #[.int .u8 (bt a0 a1)] rfl (by (try simp only [List.map_toArray, List.map_cons, List.map_nil]); first | done | rfl | (simp only [List.length_drop, List.length_take]; rfl)) ?_; (with_reducible refine (fairleadref09_small.calls (bt a0 a1) true _ A6.out).mono ?_); rintro e w' ⟨rfl, ⟨nd, rfl⟩⟩; refine ⟨_, rfl, ?_⟩) | ((with_reducible refine gate_callee (f := 22) rfl ?_); refine goesL_ (some 23) rfl rfl Try.func22 (by kernel_rfl) rfl #[.string a0, .int .i64 a1] rfl (by (try simp only [List.map_toArray, List.map_cons, List.map_nil]); first | done | rfl | (simp only [List.length_drop, List.length_take]; rfl)) ?_; (with_reducible refine (fairleadref09_run.calls k a0 a1 t143 _ A8.out).mono ?_); rintro e w' ⟨rfl, ⟨nd, rfl⟩⟩; refine ⟨_, rfl, ?_⟩; have hcz16_0 : w13.cell? ⟨gb140, 0, none⟩ = some (.int .i64 0) := (blk_cell BK140.out 0).trans rfl; have hcz16_1 : w13.cell? ⟨gb140, 1, none⟩ = some (.int .i64 0) := (blk_cell BK140.out 1).trans rfl; have hcz16_2 : w13.cell? ⟨gb140, 2, none⟩ = some (.string (⟨#[]⟩ : ByteArray)) := (blk_cell BK140.out 2).trans rfl; have hcz16_3 : w13.cell? ⟨gb140, 3, none⟩ = some (.int .u64 0) := (blk_cell BK140.out 3).trans rfl; have hfz16_0 := blk_frozen BK140.out 0; have hfz16_1 := blk_frozen BK140.out 1; have hfz16_2 := blk_frozen BK140.out 2; have hfz16_3 := blk_frozen BK140.out 3))
            refine bodyPost_ret (results_ct rfl _ _ gb140 31 #[.int .i64 1, .int .i64 a1, .string (a0.extract (a1 : Int).toNat ((wrap64 (a1 + t143)) : Int).toNat), .int .u64 0] (0, 0) _ rfl (by (with_reducible repeat (first | refine blk_drewN ?_ _ | refine blk_drew ?_ | refine blk_alloc ?_ _)); refine blk_put (cs := #[.int .i64 1, .int .i64 a1, .string (a0.extract (a1 : Int).toNat ((wrap64 (a1 + t143)) : Int).toNat), .int .u64 0]) ?_ 3 _ rfl; (with_reducible repeat (first | refine blk_drewN ?_ _ | refine blk_drew ?_ | refine blk_alloc ?_ _)); refine blk_put (cs := #[.int .i64 1, .int .i64 a1, .string (⟨#[]⟩ : ByteArray), .int .u64 0]) ?_ 2 _ rfl; (with_reducible repeat (first | refine blk_drewN ?_ _ | refine blk_drew ?_ | refine blk_alloc ?_ _)); refine blk_put (cs := #[.int .i64 1, .int .i64 0, .string (⟨#[]⟩ : ByteArray), .int .u64 0]) ?_ 1 _ rfl; (with_reducible repeat (first | refine blk_drewN ?_ _ | refine blk_drew ?_ | refine blk_alloc ?_ _)); refine blk_put (cs := #[.int .i64 0, .int .i64 0, .string (⟨#[]⟩ : ByteArray), .int .u64 0]) ?_ 0 _ rfl; (with_reducible repeat (first | refine blk_drewN ?_ _ | refine blk_drew ?_ | refine blk_alloc ?_ _)); refine blk_far ?_ NB140_141.out _; (with_reducible repeat (first | refine blk_drewN ?_ _ | refine blk_drew ?_ | refine blk_alloc ?_ _)); refine blk_far ?_ NB140_141.out _; (with_reducible repeat (first | refine blk_drewN ?_ _ | refine blk_drew ?_ | refine blk_alloc ?_ _)); refine blk_far ?_ NB140_141.out _; (with_reducible repeat (first | refine blk_drewN ?_ _ | refine blk_drew ?_ | refine blk_alloc ?_ _)); refine blk_far ?_ NB140_141.out _; (with_reducible repeat (first | refine blk_drewN ?_ _ | refine blk_drew ?_ | refine blk_alloc ?_ _)); refine blk_far ?_ NB140_141.out _; (with_reducible repeat (first | refine blk_drewN ?_ _ | refine blk_drew ?_ | refine blk_alloc ?_ _)); refine blk_far ?_ NB140_141.out _; (with_reducible repeat (first | refine blk_drewN ?_ _ | refine blk_drew ?_ | refine blk_alloc ?_ _)); exact BK140.out) Try.underlying31 rfl (by kernel_rfl)) rfl ?_
            exact ⟨by first | rfl | (simp [errW_none, errW_some] <;> rfl) | (simp [*, errW_none, errW_some] <;> rfl), by repeat (first | (with_reducible first | exact HB.out | apply below_alloc | apply pw_below_drewN | apply below_drew1 | refine below_set ?_ GE140.out | refine below_set ?_ GE141.out) | exact HB.out)⟩
          · rw [if_neg c11] at H
            exact absurd H (by simp)
        · rw [if_neg c10] at H
          exact absurd H (by simp)
      · replace c7 := Bool.eq_false_iff.mpr c7
        subst c7
        have H1 : ((fairleadref09_digit.f (bt a0 a1)).bind fun t144 => (if t144 = true then ((fairleadref09_run.f k a0 a1).bind fun t145 => (if a1 ≤ (wrap64 (a1 + t145)) then (if (wrap64 (a1 + t145)) ≤ (a0.size : Int) then ((fairleadref09_Number.f k (a0.extract (a1 : Int).toNat ((wrap64 (a1 + t145)) : Int).toNat)).bind fun bt146 => (if bt146.2 = true then (some (2, a1, a0.extract (a1 : Int).toNat ((wrap64 (a1 + t145)) : Int).toNat, bt146.1, 0)) else (some (0, 0, (⟨#[]⟩ : ByteArray), 0, 6)))) else (none)) else (none))) else (if (wrap64 (a1 + 1)) < (a0.size : Int) then (if 0 ≤ (wrap64 (a1 + 1)) then (if (bt a0 (wrap64 (a1 + 1))) = 61 then (if (bt a0 a1) = 61 then (fairleadref09_One.j0 k a0 a1 (bt a0 a1) true 3 a1 (⟨#[]⟩ : ByteArray) 0) else (if (bt a0 a1) = 33 then (fairleadref09_One.j0 k a0 a1 (bt a0 a1) true 3 a1 (⟨#[]⟩ : ByteArray) 0) else (if (bt a0 a1) = 60 then (fairleadref09_One.j0 k a0 a1 (bt a0 a1) true 3 a1 (⟨#[]⟩ : ByteArray) 0) else (fairleadref09_One.j0 k a0 a1 (bt a0 a1) ((bt a0 a1) == 62) 3 a1 (⟨#[]⟩ : ByteArray) 0)))) else (fairleadref09_One.j0 k a0 a1 (bt a0 a1) false 3 a1 (⟨#[]⟩ : ByteArray) 0)) else (none)) else (fairleadref09_One.j0 k a0 a1 (bt a0 a1) false 3 a1 (⟨#[]⟩ : ByteArray) 0)))) = some (r1, r2, r3, r4, r5) := by rw [if_neg (show ¬ (false = true) by decide)] at H; exact H
        clear H
        have H := H1
        clear H1
        replace H := Option.bind_eq_some_iff.mp H
        obtain ⟨t144, A170, H⟩ := H
        replace H : (if t144 = true then ((fairleadref09_run.f k a0 a1).bind fun t145 => (if a1 ≤ (wrap64 (a1 + t145)) then (if (wrap64 (a1 + t145)) ≤ (a0.size : Int) then ((fairleadref09_Number.f k (a0.extract (a1 : Int).toNat ((wrap64 (a1 + t145)) : Int).toNat)).bind fun bt146 => (if bt146.2 = true then (some (2, a1, a0.extract (a1 : Int).toNat ((wrap64 (a1 + t145)) : Int).toNat, bt146.1, 0)) else (some (0, 0, (⟨#[]⟩ : ByteArray), 0, 6)))) else (none)) else (none))) else (if (wrap64 (a1 + 1)) < (a0.size : Int) then (if 0 ≤ (wrap64 (a1 + 1)) then (if (bt a0 (wrap64 (a1 + 1))) = 61 then (if (bt a0 a1) = 61 then (fairleadref09_One.j0 k a0 a1 (bt a0 a1) true 3 a1 (⟨#[]⟩ : ByteArray) 0) else (if (bt a0 a1) = 33 then (fairleadref09_One.j0 k a0 a1 (bt a0 a1) true 3 a1 (⟨#[]⟩ : ByteArray) 0) else (if (bt a0 a1) = 60 then (fairleadref09_One.j0 k a0 a1 (bt a0 a1) true 3 a1 (⟨#[]⟩ : ByteArray) 0) else (fairleadref09_One.j0 k a0 a1 (bt a0 a1) ((bt a0 a1) == 62) 3 a1 (⟨#[]⟩ : ByteArray) 0)))) else (fairleadref09_One.j0 k a0 a1 (bt a0 a1) false 3 a1 (⟨#[]⟩ : ByteArray) 0)) else (none)) else (fairleadref09_One.j0 k a0 a1 (bt a0 a1) false 3 a1 (⟨#[]⟩ : ByteArray) 0))) = some (r1, r2, r3, r4, r5) := H
        have A17 := Aside0.mk A170
        clear A170
        by_cases c18 : t144 = true
        · subst c18
          have H1 : ((fairleadref09_run.f k a0 a1).bind fun t145 => (if a1 ≤ (wrap64 (a1 + t145)) then (if (wrap64 (a1 + t145)) ≤ (a0.size : Int) then ((fairleadref09_Number.f k (a0.extract (a1 : Int).toNat ((wrap64 (a1 + t145)) : Int).toNat)).bind fun bt146 => (if bt146.2 = true then (some (2, a1, a0.extract (a1 : Int).toNat ((wrap64 (a1 + t145)) : Int).toNat, bt146.1, 0)) else (some (0, 0, (⟨#[]⟩ : ByteArray), 0, 6)))) else (none)) else (none))) = some (r1, r2, r3, r4, r5) := by rw [if_pos rfl] at H; exact H
          clear H
          have H := H1
          clear H1
          replace H := Option.bind_eq_some_iff.mp H
          obtain ⟨t145, A190, H⟩ := H
          replace H : (if a1 ≤ (wrap64 (a1 + t145)) then (if (wrap64 (a1 + t145)) ≤ (a0.size : Int) then ((fairleadref09_Number.f k (a0.extract (a1 : Int).toNat ((wrap64 (a1 + t145)) : Int).toNat)).bind fun bt146 => (if bt146.2 = true then (some (2, a1, a0.extract (a1 : Int).toNat ((wrap64 (a1 + t145)) : Int).toNat, bt146.1, 0)) else (some (0, 0, (⟨#[]⟩ : ByteArray), 0, 6)))) else (none)) else (none)) = some (r1, r2, r3, r4, r5) := H
          have A19 := Aside0.mk A190
          clear A190
          have c20b0 := eq_true (of_decide_eq_true (by first | (with_reducible assumption) | assumption) : 0 ≤ a1)
          by_cases c21 : a1 ≤ (wrap64 (a1 + t145))
          · rw [if_pos c21] at H
            have c21b0 := eq_true c21
            have c21b1 : decide (a1 ≤ (wrap64 (a1 + t145))) = true := decide_eq_true c21
            by_cases c22 : (wrap64 (a1 + t145)) ≤ (a0.size : Int)
            · rw [if_pos c22] at H
              have c22b0 := eq_true c22
              have c22b1 : decide ((wrap64 (a1 + t145)) ≤ (a0.size : Int)) = true := decide_eq_true c22
              replace H := Option.bind_eq_some_iff.mp H
              obtain ⟨⟨t146, t147⟩, A230, H⟩ := H
              replace H : (if t147 = true then (some (2, a1, a0.extract (a1 : Int).toNat ((wrap64 (a1 + t145)) : Int).toNat, t146, 0)) else (some (0, 0, (⟨#[]⟩ : ByteArray), 0, 6))) = some (r1, r2, r3, r4, r5) := H
              have A23 := Aside0.mk A230
              clear A230
              by_cases c24 : t147 = true
              · subst c24
                have H1 : (some (2, a1, a0.extract (a1 : Int).toNat ((wrap64 (a1 + t145)) : Int).toNat, t146, 0)) = some (r1, r2, r3, r4, r5) := by rw [if_pos rfl] at H; exact H
                clear H
                have H := H1
                clear H1
                simp only [Option.some.injEq, Prod.mk.injEq] at H
                obtain ⟨rfl, rfl, rfl, rfl, rfl⟩ := H
                go_enter Try.func18, Try.ntmps18
                go_wp2_with (first | ((with_reducible refine gate_dst (N := 4) rfl ?_); refine box_event ?hg (N := 4) ?hd (cs := #[.int .i64 0, .int .i64 0, .string (⟨#[]⟩ : ByteArray), .int .u64 0]) (t := 31) ?hr ?_; (case hd => rfl); (case hg => rfl); (case hr => first | (go_simp; done) | (go_simp; rfl)); intro gb140 hg w25 hbox hb; have n0_ := Aside0.mk (below_step (by repeat (first | (with_reducible first | exact HB.out | apply below_alloc | apply pw_below_drewN | apply below_drew1) | exact HB.out)) hb); have n1_ := Aside0.mk (hbox); have n2_ := Aside0.mk ((by rw [hg]; exact (below_size (by repeat (first | (with_reducible first | exact HB.out | apply below_alloc | apply pw_below_drewN | apply below_drew1) | exact HB.out))) : w.heap.size ≤ gb140)); have n3_ := Aside0.mk ((by rw [hg]; exact (below_size (by repeat (first | (with_reducible first | exact HB.out | apply below_alloc | apply pw_below_drewN | apply below_drew1) | exact HB.out))) : w.heap.size ≤ gb140)); clear HB; have HB := n0_; have BK140 := n1_; have GW140 := n2_; have GE140 := n3_; clear n0_ n1_ n2_ n3_; clear hb hbox hg; have p5 : 0 ≤ (a1 : Int) := of_decide_eq_true (by first | (with_reducible assumption) | assumption); have q5 : a1 < (a0.size : Int) := of_decide_eq_true (by first | (with_reducible assumption) | assumption); have hx5 := bt_at a0 a1; replace p5 := eq_true p5; replace q5 := eq_true q5) | ((with_reducible refine gate_dst (N := 7) rfl ?_); refine box_event ?hg (N := 7) ?hd (cs := #[.int .i64 0, .int .i64 0, .string (⟨#[]⟩ : ByteArray), .int .u64 0]) (t := 31) ?hr ?_; (case hd => rfl); (case hg => rfl); (case hr => first | (go_simp; done) | (go_simp; rfl)); intro gb141 hg w26 hbox hb; have n0_ := Aside0.mk (blk_below (g := gb140) (o := .cells #[.int .i64 0, .int .i64 0, .string (⟨#[]⟩ : ByteArray), .int .u64 0] 31 (0, 0)) (by (with_reducible repeat (first | refine blk_drewN ?_ _ | refine blk_drew ?_ | refine blk_alloc ?_ _)); exact BK140.out) hb); have n1_ := Aside0.mk (below_step (by repeat (first | (with_reducible first | exact HB.out | apply below_alloc | apply pw_below_drewN | apply below_drew1 | refine below_set ?_ GE140.out) | exact HB.out)) hb); have n2_ := Aside0.mk (hbox); have n3_ := Aside0.mk ((by rw [hg]; exact (below_size (by repeat (first | (with_reducible first | exact HB.out | apply below_alloc | apply pw_below_drewN | apply below_drew1 | refine below_set ?_ GE140.out) | exact HB.out))) : w.heap.size ≤ gb141)); have n4_ := Aside0.mk ((by rw [hg]; exact (below_size (by repeat (first | (with_reducible first | exact HB.out | apply below_alloc | apply pw_below_drewN | apply below_drew1 | refine below_set ?_ GE140.out) | exact HB.out))) : w.heap.size ≤ gb141)); have n5_ := Aside0.mk ((by rw [hg]; exact Nat.ne_of_lt (blk_lt (g := gb140) (o := .cells #[.int .i64 0, .int .i64 0, .string (⟨#[]⟩ : ByteArray), .int .u64 0] 31 (0, 0)) (by (with_reducible repeat (first | refine blk_drewN ?_ _ | refine blk_drew ?_ | refine blk_alloc ?_ _)); exact BK140.out)) : gb140 ≠ gb141)); have n6_ := Aside0.mk ((by rw [hg]; exact Nat.ne_of_gt (blk_lt (g := gb140) (o := .cells #[.int .i64 0, .int .i64 0, .string (⟨#[]⟩ : ByteArray), .int .u64 0] 31 (0, 0)) (by (with_reducible repeat (first | refine blk_drewN ?_ _ | refine blk_drew ?_ | refine blk_alloc ?_ _)); exact BK140.out)) : gb141 ≠ gb140)); clear BK140; clear HB; have BK140 := n0_; have HB := n1_; have BK141 := n2_; have GW141 := n3_; have GE141 := n4_; have NB140_141 := n5_; have NB141_140 := n6_; clear n0_ n1_ n2_ n3_ n4_ n5_ n6_; clear hb hbox hg; have hnb27 := NB141_140.out; have hnc27 := NB140_141.out; have hcz28_0 : w26.cell? ⟨gb141, 0, none⟩ = some (.int .i64 0) := (blk_cell BK141.out 0).trans rfl; have hcz28_1 : w26.cell? ⟨gb141, 1, none⟩ = some (.int .i64 0) := (blk_cell BK141.out 1).trans rfl; have hcz28_2 : w26.cell? ⟨gb141, 2, none⟩ = some (.string (⟨#[]⟩ : ByteArray)) := (blk_cell BK141.out 2).trans rfl; have hcz28_3 : w26.cell? ⟨gb141, 3, none⟩ = some (.int .u64 0) := (blk_cell BK141.out 3).trans rfl; have hfz28_0 := blk_frozen BK141.out 0; have hfz28_1 := blk_frozen BK141.out 1; have hfz28_2 := blk_frozen BK141.out 2; have hfz28_3 := blk_frozen BK141.out 3) | ((with_reducible refine gate_callee (f := 21) rfl ?_); refine goesL_ (some 16) rfl rfl Try.func21 (by kernel_rfl) rfl #[.int .u8 (bt a0 a1)] rfl (by (try simp only [List.map_toArray, List.map_cons, List.map_nil]); first | done | rfl | (simp only [List.length_drop, List.length_take]; rfl)) ?_; (with_reducible refine (fairleadref09_small.calls (bt a0 a1) false _ A6.out).mono ?_); rintro e w' ⟨rfl, ⟨nd, rfl⟩⟩; refine ⟨_, rfl, ?_⟩) | ((with_reducible refine gate_callee (f := 26) rfl ?_); refine goesL_ (some 29) rfl rfl Try.func26 (by kernel_rfl) rfl #[.int .u8 (bt a0 a1)] rfl (by (try simp only [List.map_toArray, List.map_cons, List.map_nil]); first | done | rfl | (simp only [List.length_drop, List.length_take]; rfl)) ?_; (with_reducible refine (fairleadref09_digit.calls (bt a0 a1) true _ A17.out).mono ?_); rintro e w' ⟨rfl, ⟨nd, rfl⟩⟩; refine ⟨_, rfl, ?_⟩) | ((with_reducible refine gate_callee (f := 22) rfl ?_); refine goesL_ (some 36) rfl rfl Try.func22 (by kernel_rfl) rfl #[.string a0, .int .i64 a1] rfl (by (try simp only [List.map_toArray, List.map_cons, List.map_nil]); first | done | rfl | (simp only [List.length_drop, List.length_take]; rfl)) ?_; (with_reducible refine (fairleadref09_run.calls k a0 a1 t145 _ A19.out).mono ?_); rintro e w' ⟨rfl, ⟨nd, rfl⟩⟩; refine ⟨_, rfl, ?_⟩) | ((with_reducible refine gate_callee (f := 27) rfl ?_); refine goesL_ (some 43) rfl rfl Try.func27 (by kernel_rfl) rfl #[.string (a0.extract (a1 : Int).toNat ((wrap64 (a1 + t145)) : Int).toNat)] rfl (by (try simp only [List.map_toArray, List.map_cons, List.map_nil]); first | done | rfl | (simp only [List.length_drop, List.length_take]; rfl)) ?_; (with_reducible refine (fairleadref09_Number.calls k (a0.extract (a1 : Int).toNat ((wrap64 (a1 + t145)) : Int).toNat) t146 true _ A23.out).mono ?_); rintro e w' ⟨rfl, ⟨nd, rfl⟩⟩; refine ⟨_, rfl, ?_⟩; have hcz29_0 : w26.cell? ⟨gb140, 0, none⟩ = some (.int .i64 0) := (blk_cell BK140.out 0).trans rfl; have hcz29_1 : w26.cell? ⟨gb140, 1, none⟩ = some (.int .i64 0) := (blk_cell BK140.out 1).trans rfl; have hcz29_2 : w26.cell? ⟨gb140, 2, none⟩ = some (.string (⟨#[]⟩ : ByteArray)) := (blk_cell BK140.out 2).trans rfl; have hcz29_3 : w26.cell? ⟨gb140, 3, none⟩ = some (.int .u64 0) := (blk_cell BK140.out 3).trans rfl; have hfz29_0 := blk_frozen BK140.out 0; have hfz29_1 := blk_frozen BK140.out 1; have hfz29_2 := blk_frozen BK140.out 2; have hfz29_3 := blk_frozen BK140.out 3))
                refine bodyPost_ret (results_ct rfl _ _ gb140 31 #[.int .i64 2, .int .i64 a1, .string (a0.extract (a1 : Int).toNat ((wrap64 (a1 + t145)) : Int).toNat), .int .u64 t146] (0, 0) _ rfl (by (with_reducible repeat (first | refine blk_drewN ?_ _ | refine blk_drew ?_ | refine blk_alloc ?_ _)); refine blk_put (cs := #[.int .i64 2, .int .i64 a1, .string (a0.extract (a1 : Int).toNat ((wrap64 (a1 + t145)) : Int).toNat), .int .u64 0]) ?_ 3 _ rfl; (with_reducible repeat (first | refine blk_drewN ?_ _ | refine blk_drew ?_ | refine blk_alloc ?_ _)); refine blk_put (cs := #[.int .i64 2, .int .i64 a1, .string (⟨#[]⟩ : ByteArray), .int .u64 0]) ?_ 2 _ rfl; (with_reducible repeat (first | refine blk_drewN ?_ _ | refine blk_drew ?_ | refine blk_alloc ?_ _)); refine blk_put (cs := #[.int .i64 2, .int .i64 0, .string (⟨#[]⟩ : ByteArray), .int .u64 0]) ?_ 1 _ rfl; (with_reducible repeat (first | refine blk_drewN ?_ _ | refine blk_drew ?_ | refine blk_alloc ?_ _)); refine blk_put (cs := #[.int .i64 0, .int .i64 0, .string (⟨#[]⟩ : ByteArray), .int .u64 0]) ?_ 0 _ rfl; (with_reducible repeat (first | refine blk_drewN ?_ _ | refine blk_drew ?_ | refine blk_alloc ?_ _)); refine blk_far ?_ NB140_141.out _; (with_reducible repeat (first | refine blk_drewN ?_ _ | refine blk_drew ?_ | refine blk_alloc ?_ _)); refine blk_far ?_ NB140_141.out _; (with_reducible repeat (first | refine blk_drewN ?_ _ | refine blk_drew ?_ | refine blk_alloc ?_ _)); refine blk_far ?_ NB140_141.out _; (with_reducible repeat (first | refine blk_drewN ?_ _ | refine blk_drew ?_ | refine blk_alloc ?_ _)); refine blk_far ?_ NB140_141.out _; (with_reducible repeat (first | refine blk_drewN ?_ _ | refine blk_drew ?_ | refine blk_alloc ?_ _)); refine blk_far ?_ NB140_141.out _; (with_reducible repeat (first | refine blk_drewN ?_ _ | refine blk_drew ?_ | refine blk_alloc ?_ _)); refine blk_far ?_ NB140_141.out _; (with_reducible repeat (first | refine blk_drewN ?_ _ | refine blk_drew ?_ | refine blk_alloc ?_ _)); refine blk_far ?_ NB140_141.out _; (with_reducible repeat (first | refine blk_drewN ?_ _ | refine blk_drew ?_ | refine blk_alloc ?_ _)); exact BK140.out) Try.underlying31 rfl (by kernel_rfl)) rfl ?_
                exact ⟨by first | rfl | (simp [errW_none, errW_some] <;> rfl) | (simp [*, errW_none, errW_some] <;> rfl), by repeat (first | (with_reducible first | exact HB.out | apply below_alloc | apply pw_below_drewN | apply below_drew1 | refine below_set ?_ GE140.out | refine below_set ?_ GE141.out) | exact HB.out)⟩
              · replace c24 := Bool.eq_false_iff.mpr c24
                subst c24
                have H1 : (some (0, 0, (⟨#[]⟩ : ByteArray), 0, 6)) = some (r1, r2, r3, r4, r5) := by rw [if_neg (show ¬ (false = true) by decide)] at H; exact H
                clear H
                have H := H1
                clear H1
                simp only [Option.some.injEq, Prod.mk.injEq] at H
                obtain ⟨rfl, rfl, rfl, rfl, rfl⟩ := H
                go_enter Try.func18, Try.ntmps18
                go_wp2_with (first | ((with_reducible refine gate_dst (N := 4) rfl ?_); refine box_event ?hg (N := 4) ?hd (cs := #[.int .i64 0, .int .i64 0, .string (⟨#[]⟩ : ByteArray), .int .u64 0]) (t := 31) ?hr ?_; (case hd => rfl); (case hg => rfl); (case hr => first | (go_simp; done) | (go_simp; rfl)); intro gb140 hg w30 hbox hb; have n0_ := Aside0.mk (below_step (by repeat (first | (with_reducible first | exact HB.out | apply below_alloc | apply pw_below_drewN | apply below_drew1) | exact HB.out)) hb); have n1_ := Aside0.mk (hbox); have n2_ := Aside0.mk ((by rw [hg]; exact (below_size (by repeat (first | (with_reducible first | exact HB.out | apply below_alloc | apply pw_below_drewN | apply below_drew1) | exact HB.out))) : w.heap.size ≤ gb140)); have n3_ := Aside0.mk ((by rw [hg]; exact (below_size (by repeat (first | (with_reducible first | exact HB.out | apply below_alloc | apply pw_below_drewN | apply below_drew1) | exact HB.out))) : w.heap.size ≤ gb140)); clear HB; have HB := n0_; have BK140 := n1_; have GW140 := n2_; have GE140 := n3_; clear n0_ n1_ n2_ n3_; clear hb hbox hg; have p5 : 0 ≤ (a1 : Int) := of_decide_eq_true (by first | (with_reducible assumption) | assumption); have q5 : a1 < (a0.size : Int) := of_decide_eq_true (by first | (with_reducible assumption) | assumption); have hx5 := bt_at a0 a1; replace p5 := eq_true p5; replace q5 := eq_true q5) | ((with_reducible refine gate_dst (N := 7) rfl ?_); refine box_event ?hg (N := 7) ?hd (cs := #[.int .i64 0, .int .i64 0, .string (⟨#[]⟩ : ByteArray), .int .u64 0]) (t := 31) ?hr ?_; (case hd => rfl); (case hg => rfl); (case hr => first | (go_simp; done) | (go_simp; rfl)); intro gb141 hg w31 hbox hb; have n0_ := Aside0.mk (blk_below (g := gb140) (o := .cells #[.int .i64 0, .int .i64 0, .string (⟨#[]⟩ : ByteArray), .int .u64 0] 31 (0, 0)) (by (with_reducible repeat (first | refine blk_drewN ?_ _ | refine blk_drew ?_ | refine blk_alloc ?_ _)); exact BK140.out) hb); have n1_ := Aside0.mk (below_step (by repeat (first | (with_reducible first | exact HB.out | apply below_alloc | apply pw_below_drewN | apply below_drew1 | refine below_set ?_ GE140.out) | exact HB.out)) hb); have n2_ := Aside0.mk (hbox); have n3_ := Aside0.mk ((by rw [hg]; exact (below_size (by repeat (first | (with_reducible first | exact HB.out | apply below_alloc | apply pw_below_drewN | apply below_drew1 | refine below_set ?_ GE140.out) | exact HB.out))) : w.heap.size ≤ gb141)); have n4_ := Aside0.mk ((by rw [hg]; exact (below_size (by repeat (first | (with_reducible first | exact HB.out | apply below_alloc | apply pw_below_drewN | apply below_drew1 | refine below_set ?_ GE140.out) | exact HB.out))) : w.heap.size ≤ gb141)); have n5_ := Aside0.mk ((by rw [hg]; exact Nat.ne_of_lt (blk_lt (g := gb140) (o := .cells #[.int .i64 0, .int .i64 0, .string (⟨#[]⟩ : ByteArray), .int .u64 0] 31 (0, 0)) (by (with_reducible repeat (first | refine blk_drewN ?_ _ | refine blk_drew ?_ | refine blk_alloc ?_ _)); exact BK140.out)) : gb140 ≠ gb141)); have n6_ := Aside0.mk ((by rw [hg]; exact Nat.ne_of_gt (blk_lt (g := gb140) (o := .cells #[.int .i64 0, .int .i64 0, .string (⟨#[]⟩ : ByteArray), .int .u64 0] 31 (0, 0)) (by (with_reducible repeat (first | refine blk_drewN ?_ _ | refine blk_drew ?_ | refine blk_alloc ?_ _)); exact BK140.out)) : gb141 ≠ gb140)); clear BK140; clear HB; have BK140 := n0_; have HB := n1_; have BK141 := n2_; have GW141 := n3_; have GE141 := n4_; have NB140_141 := n5_; have NB141_140 := n6_; clear n0_ n1_ n2_ n3_ n4_ n5_ n6_; clear hb hbox hg; have hnb32 := NB141_140.out; have hnc32 := NB140_141.out; have hcz33_0 : w31.cell? ⟨gb141, 0, none⟩ = some (.int .i64 0) := (blk_cell BK141.out 0).trans rfl; have hcz33_1 : w31.cell? ⟨gb141, 1, none⟩ = some (.int .i64 0) := (blk_cell BK141.out 1).trans rfl; have hcz33_2 : w31.cell? ⟨gb141, 2, none⟩ = some (.string (⟨#[]⟩ : ByteArray)) := (blk_cell BK141.out 2).trans rfl; have hcz33_3 : w31.cell? ⟨gb141, 3, none⟩ = some (.int .u64 0) := (blk_cell BK141.out 3).trans rfl; have hfz33_0 := blk_frozen BK141.out 0; have hfz33_1 := blk_frozen BK141.out 1; have hfz33_2 := blk_frozen BK141.out 2; have hfz33_3 := blk_frozen BK141.out 3) | ((with_reducible refine gate_callee (f := 21) rfl ?_); refine goesL_ (some 16) rfl rfl Try.func21 (by kernel_rfl) rfl #[.int .u8 (bt a0 a1)] rfl (by (try simp only [List.map_toArray, List.map_cons, List.map_nil]); first | done | rfl | (simp only [List.length_drop, List.length_take]; rfl)) ?_; (with_reducible refine (fairleadref09_small.calls (bt a0 a1) false _ A6.out).mono ?_); rintro e w' ⟨rfl, ⟨nd, rfl⟩⟩; refine ⟨_, rfl, ?_⟩) | ((with_reducible refine gate_callee (f := 26) rfl ?_); refine goesL_ (some 29) rfl rfl Try.func26 (by kernel_rfl) rfl #[.int .u8 (bt a0 a1)] rfl (by (try simp only [List.map_toArray, List.map_cons, List.map_nil]); first | done | rfl | (simp only [List.length_drop, List.length_take]; rfl)) ?_; (with_reducible refine (fairleadref09_digit.calls (bt a0 a1) true _ A17.out).mono ?_); rintro e w' ⟨rfl, ⟨nd, rfl⟩⟩; refine ⟨_, rfl, ?_⟩) | ((with_reducible refine gate_callee (f := 22) rfl ?_); refine goesL_ (some 36) rfl rfl Try.func22 (by kernel_rfl) rfl #[.string a0, .int .i64 a1] rfl (by (try simp only [List.map_toArray, List.map_cons, List.map_nil]); first | done | rfl | (simp only [List.length_drop, List.length_take]; rfl)) ?_; (with_reducible refine (fairleadref09_run.calls k a0 a1 t145 _ A19.out).mono ?_); rintro e w' ⟨rfl, ⟨nd, rfl⟩⟩; refine ⟨_, rfl, ?_⟩) | ((with_reducible refine gate_callee (f := 27) rfl ?_); refine goesL_ (some 43) rfl rfl Try.func27 (by kernel_rfl) rfl #[.string (a0.extract (a1 : Int).toNat ((wrap64 (a1 + t145)) : Int).toNat)] rfl (by (try simp only [List.map_toArray, List.map_cons, List.map_nil]); first | done | rfl | (simp only [List.length_drop, List.length_take]; rfl)) ?_; (with_reducible refine (fairleadref09_Number.calls k (a0.extract (a1 : Int).toNat ((wrap64 (a1 + t145)) : Int).toNat) t146 false _ A23.out).mono ?_); rintro e w' ⟨rfl, ⟨nd, rfl⟩⟩; refine ⟨_, rfl, ?_⟩; have hcz34_0 : w31.cell? ⟨gb140, 0, none⟩ = some (.int .i64 0) := (blk_cell BK140.out 0).trans rfl; have hcz34_1 : w31.cell? ⟨gb140, 1, none⟩ = some (.int .i64 0) := (blk_cell BK140.out 1).trans rfl; have hcz34_2 : w31.cell? ⟨gb140, 2, none⟩ = some (.string (⟨#[]⟩ : ByteArray)) := (blk_cell BK140.out 2).trans rfl; have hcz34_3 : w31.cell? ⟨gb140, 3, none⟩ = some (.int .u64 0) := (blk_cell BK140.out 3).trans rfl; have hfz34_0 := blk_frozen BK140.out 0; have hfz34_1 := blk_frozen BK140.out 1; have hfz34_2 := blk_frozen BK140.out 2; have hfz34_3 := blk_frozen BK140.out 3))
                refine bodyPost_ret (results_ct rfl _ _ gb140 31 #[.int .i64 0, .int .i64 0, .string (⟨#[]⟩ : ByteArray), .int .u64 0] (0, 0) _ rfl (by (with_reducible repeat (first | refine blk_drewN ?_ _ | refine blk_drew ?_ | refine blk_alloc ?_ _)); refine blk_put (cs := #[.int .i64 0, .int .i64 0, .string (⟨#[]⟩ : ByteArray), .int .u64 0]) ?_ 3 _ rfl; (with_reducible repeat (first | refine blk_drewN ?_ _ | refine blk_drew ?_ | refine blk_alloc ?_ _)); refine blk_put (cs := #[.int .i64 0, .int .i64 0, .string (⟨#[]⟩ : ByteArray), .int .u64 0]) ?_ 2 _ rfl; (with_reducible repeat (first | refine blk_drewN ?_ _ | refine blk_drew ?_ | refine blk_alloc ?_ _)); refine blk_put (cs := #[.int .i64 0, .int .i64 0, .string (⟨#[]⟩ : ByteArray), .int .u64 0]) ?_ 1 _ rfl; (with_reducible repeat (first | refine blk_drewN ?_ _ | refine blk_drew ?_ | refine blk_alloc ?_ _)); refine blk_put (cs := #[.int .i64 0, .int .i64 0, .string (⟨#[]⟩ : ByteArray), .int .u64 0]) ?_ 0 _ rfl; (with_reducible repeat (first | refine blk_drewN ?_ _ | refine blk_drew ?_ | refine blk_alloc ?_ _)); refine blk_far ?_ NB140_141.out _; (with_reducible repeat (first | refine blk_drewN ?_ _ | refine blk_drew ?_ | refine blk_alloc ?_ _)); refine blk_far ?_ NB140_141.out _; (with_reducible repeat (first | refine blk_drewN ?_ _ | refine blk_drew ?_ | refine blk_alloc ?_ _)); refine blk_far ?_ NB140_141.out _; (with_reducible repeat (first | refine blk_drewN ?_ _ | refine blk_drew ?_ | refine blk_alloc ?_ _)); refine blk_far ?_ NB140_141.out _; (with_reducible repeat (first | refine blk_drewN ?_ _ | refine blk_drew ?_ | refine blk_alloc ?_ _)); refine blk_far ?_ NB140_141.out _; (with_reducible repeat (first | refine blk_drewN ?_ _ | refine blk_drew ?_ | refine blk_alloc ?_ _)); refine blk_far ?_ NB140_141.out _; (with_reducible repeat (first | refine blk_drewN ?_ _ | refine blk_drew ?_ | refine blk_alloc ?_ _)); refine blk_far ?_ NB140_141.out _; (with_reducible repeat (first | refine blk_drewN ?_ _ | refine blk_drew ?_ | refine blk_alloc ?_ _)); exact BK140.out) Try.underlying31 rfl (by kernel_rfl)) rfl ?_
                exact ⟨by first | rfl | (simp [errW_none, errW_some] <;> rfl) | (simp [*, errW_none, errW_some] <;> rfl), by repeat (first | (with_reducible first | exact HB.out | apply below_alloc | apply pw_below_drewN | apply below_drew1 | refine below_set ?_ GE140.out | refine below_set ?_ GE141.out) | exact HB.out)⟩
            · rw [if_neg c22] at H
              exact absurd H (by simp)
          · rw [if_neg c21] at H
            exact absurd H (by simp)
        · replace c18 := Bool.eq_false_iff.mpr c18
          subst c18
          have H1 : (if (wrap64 (a1 + 1)) < (a0.size : Int) then (if 0 ≤ (wrap64 (a1 + 1)) then (if (bt a0 (wrap64 (a1 + 1))) = 61 then (if (bt a0 a1) = 61 then (fairleadref09_One.j0 k a0 a1 (bt a0 a1) true 3 a1 (⟨#[]⟩ : ByteArray) 0) else (if (bt a0 a1) = 33 then (fairleadref09_One.j0 k a0 a1 (bt a0 a1) true 3 a1 (⟨#[]⟩ : ByteArray) 0) else (if (bt a0 a1) = 60 then (fairleadref09_One.j0 k a0 a1 (bt a0 a1) true 3 a1 (⟨#[]⟩ : ByteArray) 0) else (fairleadref09_One.j0 k a0 a1 (bt a0 a1) ((bt a0 a1) == 62) 3 a1 (⟨#[]⟩ : ByteArray) 0)))) else (fairleadref09_One.j0 k a0 a1 (bt a0 a1) false 3 a1 (⟨#[]⟩ : ByteArray) 0)) else (none)) else (fairleadref09_One.j0 k a0 a1 (bt a0 a1) false 3 a1 (⟨#[]⟩ : ByteArray) 0)) = some (r1, r2, r3, r4, r5) := by rw [if_neg (show ¬ (false = true) by decide)] at H; exact H
          clear H
          have H := H1
          clear H1
          have HC35 := Aside0.mk H
          clear H
          go_enter Try.func18, Try.ntmps18
          go_upto_region 16 with (first | ((with_reducible refine gate_dst (N := 4) rfl ?_); refine box_event ?hg (N := 4) ?hd (cs := #[.int .i64 0, .int .i64 0, .string (⟨#[]⟩ : ByteArray), .int .u64 0]) (t := 31) ?hr ?_; (case hd => rfl); (case hg => rfl); (case hr => first | (go_simp; done) | (go_simp; rfl)); intro gb140 hg w36 hbox hb; have n0_ := Aside0.mk (below_step (by repeat (first | (with_reducible first | exact HB.out | apply below_alloc | apply pw_below_drewN | apply below_drew1) | exact HB.out)) hb); have n1_ := Aside0.mk (hbox); have n2_ := Aside0.mk ((by rw [hg]; exact (below_size (by repeat (first | (with_reducible first | exact HB.out | apply below_alloc | apply pw_below_drewN | apply below_drew1) | exact HB.out))) : w.heap.size ≤ gb140)); have n3_ := Aside0.mk ((by rw [hg]; exact (below_size (by repeat (first | (with_reducible first | exact HB.out | apply below_alloc | apply pw_below_drewN | apply below_drew1) | exact HB.out))) : w.heap.size ≤ gb140)); clear HB; have HB := n0_; have BK140 := n1_; have GW140 := n2_; have GE140 := n3_; clear n0_ n1_ n2_ n3_; clear hb hbox hg; have p5 : 0 ≤ (a1 : Int) := of_decide_eq_true (by first | (with_reducible assumption) | assumption); have q5 : a1 < (a0.size : Int) := of_decide_eq_true (by first | (with_reducible assumption) | assumption); have hx5 := bt_at a0 a1; replace p5 := eq_true p5; replace q5 := eq_true q5) | ((with_reducible refine gate_dst (N := 7) rfl ?_); refine box_event ?hg (N := 7) ?hd (cs := #[.int .i64 0, .int .i64 0, .string (⟨#[]⟩ : ByteArray), .int .u64 0]) (t := 31) ?hr ?_; (case hd => rfl); (case hg => rfl); (case hr => first | (go_simp; done) | (go_simp; rfl)); intro gb141 hg w37 hbox hb; have n0_ := Aside0.mk (blk_below (g := gb140) (o := .cells #[.int .i64 0, .int .i64 0, .string (⟨#[]⟩ : ByteArray), .int .u64 0] 31 (0, 0)) (by (with_reducible repeat (first | refine blk_drewN ?_ _ | refine blk_drew ?_ | refine blk_alloc ?_ _)); exact BK140.out) hb); have n1_ := Aside0.mk (below_step (by repeat (first | (with_reducible first | exact HB.out | apply below_alloc | apply pw_below_drewN | apply below_drew1 | refine below_set ?_ GE140.out) | exact HB.out)) hb); have n2_ := Aside0.mk (hbox); have n3_ := Aside0.mk ((by rw [hg]; exact (below_size (by repeat (first | (with_reducible first | exact HB.out | apply below_alloc | apply pw_below_drewN | apply below_drew1 | refine below_set ?_ GE140.out) | exact HB.out))) : w.heap.size ≤ gb141)); have n4_ := Aside0.mk ((by rw [hg]; exact (below_size (by repeat (first | (with_reducible first | exact HB.out | apply below_alloc | apply pw_below_drewN | apply below_drew1 | refine below_set ?_ GE140.out) | exact HB.out))) : w.heap.size ≤ gb141)); have n5_ := Aside0.mk ((by rw [hg]; exact Nat.ne_of_lt (blk_lt (g := gb140) (o := .cells #[.int .i64 0, .int .i64 0, .string (⟨#[]⟩ : ByteArray), .int .u64 0] 31 (0, 0)) (by (with_reducible repeat (first | refine blk_drewN ?_ _ | refine blk_drew ?_ | refine blk_alloc ?_ _)); exact BK140.out)) : gb140 ≠ gb141)); have n6_ := Aside0.mk ((by rw [hg]; exact Nat.ne_of_gt (blk_lt (g := gb140) (o := .cells #[.int .i64 0, .int .i64 0, .string (⟨#[]⟩ : ByteArray), .int .u64 0] 31 (0, 0)) (by (with_reducible repeat (first | refine blk_drewN ?_ _ | refine blk_drew ?_ | refine blk_alloc ?_ _)); exact BK140.out)) : gb141 ≠ gb140)); clear BK140; clear HB; have BK140 := n0_; have HB := n1_; have BK141 := n2_; have GW141 := n3_; have GE141 := n4_; have NB140_141 := n5_; have NB141_140 := n6_; clear n0_ n1_ n2_ n3_ n4_ n5_ n6_; clear hb hbox hg; have hnb38 := NB141_140.out; have hnc38 := NB140_141.out; have hcz39_0 : w37.cell? ⟨gb141, 0, none⟩ = some (.int .i64 0) := (blk_cell BK141.out 0).trans rfl; have hcz39_1 : w37.cell? ⟨gb141, 1, none⟩ = some (.int .i64 0) := (blk_cell BK141.out 1).trans rfl; have hcz39_2 : w37.cell? ⟨gb141, 2, none⟩ = some (.string (⟨#[]⟩ : ByteArray)) := (blk_cell BK141.out 2).trans rfl; have hcz39_3 : w37.cell? ⟨gb141, 3, none⟩ = some (.int .u64 0) := (blk_cell BK141.out 3).trans rfl; have hfz39_0 := blk_frozen BK141.out 0; have hfz39_1 := blk_frozen BK141.out 1; have hfz39_2 := blk_frozen BK141.out 2; have hfz39_3 := blk_frozen BK141.out 3) | ((with_reducible refine gate_callee (f := 21) rfl ?_); refine goesL_ (some 16) rfl rfl Try.func21 (by kernel_rfl) rfl #[.int .u8 (bt a0 a1)] rfl (by (try simp only [List.map_toArray, List.map_cons, List.map_nil]); first | done | rfl | (simp only [List.length_drop, List.length_take]; rfl)) ?_; (with_reducible refine (fairleadref09_small.calls (bt a0 a1) false _ A6.out).mono ?_); rintro e w' ⟨rfl, ⟨nd, rfl⟩⟩; refine ⟨_, rfl, ?_⟩) | ((with_reducible refine gate_callee (f := 26) rfl ?_); refine goesL_ (some 29) rfl rfl Try.func26 (by kernel_rfl) rfl #[.int .u8 (bt a0 a1)] rfl (by (try simp only [List.map_toArray, List.map_cons, List.map_nil]); first | done | rfl | (simp only [List.length_drop, List.length_take]; rfl)) ?_; (with_reducible refine (fairleadref09_digit.calls (bt a0 a1) false _ A17.out).mono ?_); rintro e w' ⟨rfl, ⟨nd, rfl⟩⟩; refine ⟨_, rfl, ?_⟩))
          (try simp only [Act.put, List.setIfInBounds_toArray, List.set_cons_zero, List.set_cons_succ])
          go_cut [80] (fun v80 wc => ∃ (kq : Nat) (x80_34 : Bool), v80 = .bool x80_34 ∧ Aside0 (fairleadref09_One.j0 kq a0 a1 (bt a0 a1) x80_34 3 a1 (⟨#[]⟩ : ByteArray) 0 = some (r1, r2, r3, r4, r5)) ∧ Aside0 (kq ≤ k) ∧ Aside0 (wc.heap[gb140]? = some (.cells #[.int .i64 0, .int .i64 0, .string (⟨#[]⟩ : ByteArray), .int .u64 0] 31 (0, 0))) ∧ Aside0 (wc.heap[gb141]? = some (.cells #[.int .i64 3, .int .i64 a1, .string (⟨#[]⟩ : ByteArray), .int .u64 0] 31 (0, 0))) ∧ Aside0 (Below w.heap.size w wc))
          case first =>
            have H := HC35.out
            clear HC35
            by_cases c40 : (wrap64 (a1 + 1)) < (a0.size : Int)
            · rw [if_pos c40] at H
              have c40b0 : decide ((wrap64 (a1 + 1)) < (a0.size : Int)) = true := decide_eq_true c40
              clear c40
              (first | rw [c40b0] | (simp only [i64_w, i32_w]; rw [c40b0]) | skip)
              obtain ⟨ji41, hji41⟩ : ∃ j_ : Int, (wrap64 (a1 + 1)) = j_ := ⟨_, rfl⟩
              replace H : (if 0 ≤ (ji41) then (if (bt a0 (ji41)) = 61 then (if (bt a0 a1) = 61 then (fairleadref09_One.j0 k a0 a1 (bt a0 a1) true 3 a1 (⟨#[]⟩ : ByteArray) 0) else (if (bt a0 a1) = 33 then (fairleadref09_One.j0 k a0 a1 (bt a0 a1) true 3 a1 (⟨#[]⟩ : ByteArray) 0) else (if (bt a0 a1) = 60 then (fairleadref09_One.j0 k a0 a1 (bt a0 a1) true 3 a1 (⟨#[]⟩ : ByteArray) 0) else (fairleadref09_One.j0 k a0 a1 (bt a0 a1) ((bt a0 a1) == 62) 3 a1 (⟨#[]⟩ : ByteArray) 0)))) else (fairleadref09_One.j0 k a0 a1 (bt a0 a1) false 3 a1 (⟨#[]⟩ : ByteArray) 0)) else (none)) = some (r1, r2, r3, r4, r5) := by first | (rw [hji41] at H; exact H) | (simp only [hji41] at H ⊢; exact H)
              (try rw [hji41] at c40b0)
              have hji41w : (IntKind.i64.wrap (a1 + 1)) = ji41 := (i64_w _).trans hji41
              by_cases c42 : 0 ≤ (ji41)
              · rw [if_pos c42] at H
                have c42b0 : decide (0 ≤ (ji41)) = true := decide_eq_true c42
                clear c42
                by_cases c44 : (bt a0 (ji41)) = 61
                · rw [if_pos c44] at H
                  have c44b0 : ((bt a0 (ji41)) == 61) = true := beq_iff_eq.mpr c44
                  have c44b1 : ((bt a0 (ji41)) != 61) = false := bne_eq_false_iff_eq.mpr c44
                  clear c44
                  by_cases c45 : (bt a0 a1) = 61
                  · rw [if_pos c45] at H
                    have c45b0 : ((bt a0 a1) == 61) = true := beq_iff_eq.mpr c45
                    have c45b1 : ((bt a0 a1) != 61) = false := bne_eq_false_iff_eq.mpr c45
                    clear c45
                    have H' := Aside0.mk H
                    clear H
                    have p43 : 0 ≤ ((ji41) : Int) := of_decide_eq_true (by first | (with_reducible assumption) | assumption)
                    have q43 : (ji41) < (a0.size : Int) := of_decide_eq_true (by first | (with_reducible assumption) | assumption)
                    have hx43 := bt_at a0 (ji41)
                    replace p43 := eq_true p43
                    replace q43 := eq_true q43
                    go_wp2
                    go_meet
                    case rel => exact ⟨_, (true), (by first | rfl | (simp; done) | (simp [*]; done)), H', ⟨by first | omega | exact Nat.le_refl _⟩, ⟨by (with_reducible repeat (first | refine blk_drewN ?_ _ | refine blk_drew ?_ | refine blk_alloc ?_ _)); refine blk_far ?_ NB140_141.out _; (with_reducible repeat (first | refine blk_drewN ?_ _ | refine blk_drew ?_ | refine blk_alloc ?_ _)); refine blk_far ?_ NB140_141.out _; (with_reducible repeat (first | refine blk_drewN ?_ _ | refine blk_drew ?_ | refine blk_alloc ?_ _)); refine blk_far ?_ NB140_141.out _; (with_reducible repeat (first | refine blk_drewN ?_ _ | refine blk_drew ?_ | refine blk_alloc ?_ _)); refine blk_far ?_ NB140_141.out _; (with_reducible repeat (first | refine blk_drewN ?_ _ | refine blk_drew ?_ | refine blk_alloc ?_ _)); refine blk_far ?_ NB140_141.out _; (with_reducible repeat (first | refine blk_drewN ?_ _ | refine blk_drew ?_ | refine blk_alloc ?_ _)); exact BK140.out⟩, ⟨by (with_reducible repeat (first | refine blk_drewN ?_ _ | refine blk_drew ?_ | refine blk_alloc ?_ _)); refine blk_put (cs := #[.int .i64 0, .int .i64 a1, .string (⟨#[]⟩ : ByteArray), .int .u64 0]) ?_ 0 _ rfl; (with_reducible repeat (first | refine blk_drewN ?_ _ | refine blk_drew ?_ | refine blk_alloc ?_ _)); refine blk_put (cs := #[.int .i64 0, .int .i64 a1, .string (⟨#[]⟩ : ByteArray), .int .u64 0]) ?_ 3 _ rfl; (with_reducible repeat (first | refine blk_drewN ?_ _ | refine blk_drew ?_ | refine blk_alloc ?_ _)); refine blk_put (cs := #[.int .i64 0, .int .i64 a1, .string (⟨#[]⟩ : ByteArray), .int .u64 0]) ?_ 2 _ rfl; (with_reducible repeat (first | refine blk_drewN ?_ _ | refine blk_drew ?_ | refine blk_alloc ?_ _)); refine blk_put (cs := #[.int .i64 0, .int .i64 0, .string (⟨#[]⟩ : ByteArray), .int .u64 0]) ?_ 1 _ rfl; (with_reducible repeat (first | refine blk_drewN ?_ _ | refine blk_drew ?_ | refine blk_alloc ?_ _)); refine blk_put (cs := #[.int .i64 0, .int .i64 0, .string (⟨#[]⟩ : ByteArray), .int .u64 0]) ?_ 0 _ rfl; (with_reducible repeat (first | refine blk_drewN ?_ _ | refine blk_drew ?_ | refine blk_alloc ?_ _)); exact BK141.out⟩, ⟨by repeat (first | (with_reducible first | exact HB.out | apply below_alloc | apply pw_below_drewN | apply below_drew1 | refine below_set ?_ GE140.out | refine below_set ?_ GE141.out) | exact HB.out)⟩⟩
                  · rw [if_neg c45] at H
                    have c45b0 : ((bt a0 a1) == 61) = false := beq_eq_false_iff_ne.mpr c45
                    have c45b1 : ((bt a0 a1) != 61) = true := bne_iff_ne.mpr c45
                    by_cases c46 : (bt a0 a1) = 33
                    · rw [if_pos c46] at H
                      have c46b0 : ((bt a0 a1) == 33) = true := beq_iff_eq.mpr c46
                      have c46b1 : ((bt a0 a1) != 33) = false := bne_eq_false_iff_eq.mpr c46
                      clear c46
                      have H' := Aside0.mk H
                      clear H
                      have p43 : 0 ≤ ((ji41) : Int) := of_decide_eq_true (by first | (with_reducible assumption) | assumption)
                      have q43 : (ji41) < (a0.size : Int) := of_decide_eq_true (by first | (with_reducible assumption) | assumption)
                      have hx43 := bt_at a0 (ji41)
                      replace p43 := eq_true p43
                      replace q43 := eq_true q43
                      go_wp2
                      go_meet
                      case rel => exact ⟨_, (true), (by first | rfl | (simp; done) | (simp [*]; done)), H', ⟨by first | omega | exact Nat.le_refl _⟩, ⟨by (with_reducible repeat (first | refine blk_drewN ?_ _ | refine blk_drew ?_ | refine blk_alloc ?_ _)); refine blk_far ?_ NB140_141.out _; (with_reducible repeat (first | refine blk_drewN ?_ _ | refine blk_drew ?_ | refine blk_alloc ?_ _)); refine blk_far ?_ NB140_141.out _; (with_reducible repeat (first | refine blk_drewN ?_ _ | refine blk_drew ?_ | refine blk_alloc ?_ _)); refine blk_far ?_ NB140_141.out _; (with_reducible repeat (first | refine blk_drewN ?_ _ | refine blk_drew ?_ | refine blk_alloc ?_ _)); refine blk_far ?_ NB140_141.out _; (with_reducible repeat (first | refine blk_drewN ?_ _ | refine blk_drew ?_ | refine blk_alloc ?_ _)); refine blk_far ?_ NB140_141.out _; (with_reducible repeat (first | refine blk_drewN ?_ _ | refine blk_drew ?_ | refine blk_alloc ?_ _)); exact BK140.out⟩, ⟨by (with_reducible repeat (first | refine blk_drewN ?_ _ | refine blk_drew ?_ | refine blk_alloc ?_ _)); refine blk_put (cs := #[.int .i64 0, .int .i64 a1, .string (⟨#[]⟩ : ByteArray), .int .u64 0]) ?_ 0 _ rfl; (with_reducible repeat (first | refine blk_drewN ?_ _ | refine blk_drew ?_ | refine blk_alloc ?_ _)); refine blk_put (cs := #[.int .i64 0, .int .i64 a1, .string (⟨#[]⟩ : ByteArray), .int .u64 0]) ?_ 3 _ rfl; (with_reducible repeat (first | refine blk_drewN ?_ _ | refine blk_drew ?_ | refine blk_alloc ?_ _)); refine blk_put (cs := #[.int .i64 0, .int .i64 a1, .string (⟨#[]⟩ : ByteArray), .int .u64 0]) ?_ 2 _ rfl; (with_reducible repeat (first | refine blk_drewN ?_ _ | refine blk_drew ?_ | refine blk_alloc ?_ _)); refine blk_put (cs := #[.int .i64 0, .int .i64 0, .string (⟨#[]⟩ : ByteArray), .int .u64 0]) ?_ 1 _ rfl; (with_reducible repeat (first | refine blk_drewN ?_ _ | refine blk_drew ?_ | refine blk_alloc ?_ _)); refine blk_put (cs := #[.int .i64 0, .int .i64 0, .string (⟨#[]⟩ : ByteArray), .int .u64 0]) ?_ 0 _ rfl; (with_reducible repeat (first | refine blk_drewN ?_ _ | refine blk_drew ?_ | refine blk_alloc ?_ _)); exact BK141.out⟩, ⟨by repeat (first | (with_reducible first | exact HB.out | apply below_alloc | apply pw_below_drewN | apply below_drew1 | refine below_set ?_ GE140.out | refine below_set ?_ GE141.out) | exact HB.out)⟩⟩
                    · rw [if_neg c46] at H
                      have c46b0 : ((bt a0 a1) == 33) = false := beq_eq_false_iff_ne.mpr c46
                      have c46b1 : ((bt a0 a1) != 33) = true := bne_iff_ne.mpr c46
                      by_cases c47 : (bt a0 a1) = 60
                      · rw [if_pos c47] at H
                        have c47b0 : ((bt a0 a1) == 60) = true := beq_iff_eq.mpr c47
                        have c47b1 : ((bt a0 a1) != 60) = false := bne_eq_false_iff_eq.mpr c47
                        clear c47
                        have H' := Aside0.mk H
                        clear H
                        have p43 : 0 ≤ ((ji41) : Int) := of_decide_eq_true (by first | (with_reducible assumption) | assumption)
                        have q43 : (ji41) < (a0.size : Int) := of_decide_eq_true (by first | (with_reducible assumption) | assumption)
                        have hx43 := bt_at a0 (ji41)
                        replace p43 := eq_true p43
                        replace q43 := eq_true q43
                        go_wp2
                        go_meet
                        case rel => exact ⟨_, (true), (by first | rfl | (simp; done) | (simp [*]; done)), H', ⟨by first | omega | exact Nat.le_refl _⟩, ⟨by (with_reducible repeat (first | refine blk_drewN ?_ _ | refine blk_drew ?_ | refine blk_alloc ?_ _)); refine blk_far ?_ NB140_141.out _; (with_reducible repeat (first | refine blk_drewN ?_ _ | refine blk_drew ?_ | refine blk_alloc ?_ _)); refine blk_far ?_ NB140_141.out _; (with_reducible repeat (first | refine blk_drewN ?_ _ | refine blk_drew ?_ | refine blk_alloc ?_ _)); refine blk_far ?_ NB140_141.out _; (with_reducible repeat (first | refine blk_drewN ?_ _ | refine blk_drew ?_ | refine blk_alloc ?_ _)); refine blk_far ?_ NB140_141.out _; (with_reducible repeat (first | refine blk_drewN ?_ _ | refine blk_drew ?_ | refine blk_alloc ?_ _)); refine blk_far ?_ NB140_141.out _; (with_reducible repeat (first | refine blk_drewN ?_ _ | refine blk_drew ?_ | refine blk_alloc ?_ _)); exact BK140.out⟩, ⟨by (with_reducible repeat (first | refine blk_drewN ?_ _ | refine blk_drew ?_ | refine blk_alloc ?_ _)); refine blk_put (cs := #[.int .i64 0, .int .i64 a1, .string (⟨#[]⟩ : ByteArray), .int .u64 0]) ?_ 0 _ rfl; (with_reducible repeat (first | refine blk_drewN ?_ _ | refine blk_drew ?_ | refine blk_alloc ?_ _)); refine blk_put (cs := #[.int .i64 0, .int .i64 a1, .string (⟨#[]⟩ : ByteArray), .int .u64 0]) ?_ 3 _ rfl; (with_reducible repeat (first | refine blk_drewN ?_ _ | refine blk_drew ?_ | refine blk_alloc ?_ _)); refine blk_put (cs := #[.int .i64 0, .int .i64 a1, .string (⟨#[]⟩ : ByteArray), .int .u64 0]) ?_ 2 _ rfl; (with_reducible repeat (first | refine blk_drewN ?_ _ | refine blk_drew ?_ | refine blk_alloc ?_ _)); refine blk_put (cs := #[.int .i64 0, .int .i64 0, .string (⟨#[]⟩ : ByteArray), .int .u64 0]) ?_ 1 _ rfl; (with_reducible repeat (first | refine blk_drewN ?_ _ | refine blk_drew ?_ | refine blk_alloc ?_ _)); refine blk_put (cs := #[.int .i64 0, .int .i64 0, .string (⟨#[]⟩ : ByteArray), .int .u64 0]) ?_ 0 _ rfl; (with_reducible repeat (first | refine blk_drewN ?_ _ | refine blk_drew ?_ | refine blk_alloc ?_ _)); exact BK141.out⟩, ⟨by repeat (first | (with_reducible first | exact HB.out | apply below_alloc | apply pw_below_drewN | apply below_drew1 | refine below_set ?_ GE140.out | refine below_set ?_ GE141.out) | exact HB.out)⟩⟩
                      · rw [if_neg c47] at H
                        have c47b0 : ((bt a0 a1) == 60) = false := beq_eq_false_iff_ne.mpr c47
                        have c47b1 : ((bt a0 a1) != 60) = true := bne_iff_ne.mpr c47
                        have H' := Aside0.mk H
                        clear H
                        have p43 : 0 ≤ ((ji41) : Int) := of_decide_eq_true (by first | (with_reducible assumption) | assumption)
                        have q43 : (ji41) < (a0.size : Int) := of_decide_eq_true (by first | (with_reducible assumption) | assumption)
                        have hx43 := bt_at a0 (ji41)
                        replace p43 := eq_true p43
                        replace q43 := eq_true q43
                        go_wp2
                        go_meet
                        case rel => exact ⟨_, (((bt a0 a1) == 62)), (by first | rfl | (simp; done) | (simp [*]; done)), H', ⟨by first | omega | exact Nat.le_refl _⟩, ⟨by (with_reducible repeat (first | refine blk_drewN ?_ _ | refine blk_drew ?_ | refine blk_alloc ?_ _)); refine blk_far ?_ NB140_141.out _; (with_reducible repeat (first | refine blk_drewN ?_ _ | refine blk_drew ?_ | refine blk_alloc ?_ _)); refine blk_far ?_ NB140_141.out _; (with_reducible repeat (first | refine blk_drewN ?_ _ | refine blk_drew ?_ | refine blk_alloc ?_ _)); refine blk_far ?_ NB140_141.out _; (with_reducible repeat (first | refine blk_drewN ?_ _ | refine blk_drew ?_ | refine blk_alloc ?_ _)); refine blk_far ?_ NB140_141.out _; (with_reducible repeat (first | refine blk_drewN ?_ _ | refine blk_drew ?_ | refine blk_alloc ?_ _)); refine blk_far ?_ NB140_141.out _; (with_reducible repeat (first | refine blk_drewN ?_ _ | refine blk_drew ?_ | refine blk_alloc ?_ _)); exact BK140.out⟩, ⟨by (with_reducible repeat (first | refine blk_drewN ?_ _ | refine blk_drew ?_ | refine blk_alloc ?_ _)); refine blk_put (cs := #[.int .i64 0, .int .i64 a1, .string (⟨#[]⟩ : ByteArray), .int .u64 0]) ?_ 0 _ rfl; (with_reducible repeat (first | refine blk_drewN ?_ _ | refine blk_drew ?_ | refine blk_alloc ?_ _)); refine blk_put (cs := #[.int .i64 0, .int .i64 a1, .string (⟨#[]⟩ : ByteArray), .int .u64 0]) ?_ 3 _ rfl; (with_reducible repeat (first | refine blk_drewN ?_ _ | refine blk_drew ?_ | refine blk_alloc ?_ _)); refine blk_put (cs := #[.int .i64 0, .int .i64 a1, .string (⟨#[]⟩ : ByteArray), .int .u64 0]) ?_ 2 _ rfl; (with_reducible repeat (first | refine blk_drewN ?_ _ | refine blk_drew ?_ | refine blk_alloc ?_ _)); refine blk_put (cs := #[.int .i64 0, .int .i64 0, .string (⟨#[]⟩ : ByteArray), .int .u64 0]) ?_ 1 _ rfl; (with_reducible repeat (first | refine blk_drewN ?_ _ | refine blk_drew ?_ | refine blk_alloc ?_ _)); refine blk_put (cs := #[.int .i64 0, .int .i64 0, .string (⟨#[]⟩ : ByteArray), .int .u64 0]) ?_ 0 _ rfl; (with_reducible repeat (first | refine blk_drewN ?_ _ | refine blk_drew ?_ | refine blk_alloc ?_ _)); exact BK141.out⟩, ⟨by repeat (first | (with_reducible first | exact HB.out | apply below_alloc | apply pw_below_drewN | apply below_drew1 | refine below_set ?_ GE140.out | refine below_set ?_ GE141.out) | exact HB.out)⟩⟩
                · rw [if_neg c44] at H
                  have c44b0 : ((bt a0 (ji41)) == 61) = false := beq_eq_false_iff_ne.mpr c44
                  have c44b1 : ((bt a0 (ji41)) != 61) = true := bne_iff_ne.mpr c44
                  have H' := Aside0.mk H
                  clear H
                  have p43 : 0 ≤ ((ji41) : Int) := of_decide_eq_true (by first | (with_reducible assumption) | assumption)
                  have q43 : (ji41) < (a0.size : Int) := of_decide_eq_true (by first | (with_reducible assumption) | assumption)
                  have hx43 := bt_at a0 (ji41)
                  replace p43 := eq_true p43
                  replace q43 := eq_true q43
                  go_wp2
                  go_meet
                  case rel => exact ⟨_, (false), (by first | rfl | (simp; done) | (simp [*]; done)), H', ⟨by first | omega | exact Nat.le_refl _⟩, ⟨by (with_reducible repeat (first | refine blk_drewN ?_ _ | refine blk_drew ?_ | refine blk_alloc ?_ _)); refine blk_far ?_ NB140_141.out _; (with_reducible repeat (first | refine blk_drewN ?_ _ | refine blk_drew ?_ | refine blk_alloc ?_ _)); refine blk_far ?_ NB140_141.out _; (with_reducible repeat (first | refine blk_drewN ?_ _ | refine blk_drew ?_ | refine blk_alloc ?_ _)); refine blk_far ?_ NB140_141.out _; (with_reducible repeat (first | refine blk_drewN ?_ _ | refine blk_drew ?_ | refine blk_alloc ?_ _)); refine blk_far ?_ NB140_141.out _; (with_reducible repeat (first | refine blk_drewN ?_ _ | refine blk_drew ?_ | refine blk_alloc ?_ _)); refine blk_far ?_ NB140_141.out _; (with_reducible repeat (first | refine blk_drewN ?_ _ | refine blk_drew ?_ | refine blk_alloc ?_ _)); exact BK140.out⟩, ⟨by (with_reducible repeat (first | refine blk_drewN ?_ _ | refine blk_drew ?_ | refine blk_alloc ?_ _)); refine blk_put (cs := #[.int .i64 0, .int .i64 a1, .string (⟨#[]⟩ : ByteArray), .int .u64 0]) ?_ 0 _ rfl; (with_reducible repeat (first | refine blk_drewN ?_ _ | refine blk_drew ?_ | refine blk_alloc ?_ _)); refine blk_put (cs := #[.int .i64 0, .int .i64 a1, .string (⟨#[]⟩ : ByteArray), .int .u64 0]) ?_ 3 _ rfl; (with_reducible repeat (first | refine blk_drewN ?_ _ | refine blk_drew ?_ | refine blk_alloc ?_ _)); refine blk_put (cs := #[.int .i64 0, .int .i64 a1, .string (⟨#[]⟩ : ByteArray), .int .u64 0]) ?_ 2 _ rfl; (with_reducible repeat (first | refine blk_drewN ?_ _ | refine blk_drew ?_ | refine blk_alloc ?_ _)); refine blk_put (cs := #[.int .i64 0, .int .i64 0, .string (⟨#[]⟩ : ByteArray), .int .u64 0]) ?_ 1 _ rfl; (with_reducible repeat (first | refine blk_drewN ?_ _ | refine blk_drew ?_ | refine blk_alloc ?_ _)); refine blk_put (cs := #[.int .i64 0, .int .i64 0, .string (⟨#[]⟩ : ByteArray), .int .u64 0]) ?_ 0 _ rfl; (with_reducible repeat (first | refine blk_drewN ?_ _ | refine blk_drew ?_ | refine blk_alloc ?_ _)); exact BK141.out⟩, ⟨by repeat (first | (with_reducible first | exact HB.out | apply below_alloc | apply pw_below_drewN | apply below_drew1 | refine below_set ?_ GE140.out | refine below_set ?_ GE141.out) | exact HB.out)⟩⟩
              · rw [if_neg c42] at H
                exact absurd H (by simp)
            · rw [if_neg c40] at H
              have c40b0 : decide ((wrap64 (a1 + 1)) < (a0.size : Int)) = false := decide_eq_false c40
              clear c40
              (first | rw [c40b0] | (simp only [i64_w, i32_w]; rw [c40b0]) | skip)
              have H' := Aside0.mk H
              clear H
              go_wp2
              go_meet
              case rel => exact ⟨_, (false), (by first | rfl | (simp; done) | (simp [*]; done)), H', ⟨by first | omega | exact Nat.le_refl _⟩, ⟨by (with_reducible repeat (first | refine blk_drewN ?_ _ | refine blk_drew ?_ | refine blk_alloc ?_ _)); refine blk_far ?_ NB140_141.out _; (with_reducible repeat (first | refine blk_drewN ?_ _ | refine blk_drew ?_ | refine blk_alloc ?_ _)); refine blk_far ?_ NB140_141.out _; (with_reducible repeat (first | refine blk_drewN ?_ _ | refine blk_drew ?_ | refine blk_alloc ?_ _)); refine blk_far ?_ NB140_141.out _; (with_reducible repeat (first | refine blk_drewN ?_ _ | refine blk_drew ?_ | refine blk_alloc ?_ _)); refine blk_far ?_ NB140_141.out _; (with_reducible repeat (first | refine blk_drewN ?_ _ | refine blk_drew ?_ | refine blk_alloc ?_ _)); refine blk_far ?_ NB140_141.out _; (with_reducible repeat (first | refine blk_drewN ?_ _ | refine blk_drew ?_ | refine blk_alloc ?_ _)); exact BK140.out⟩, ⟨by (with_reducible repeat (first | refine blk_drewN ?_ _ | refine blk_drew ?_ | refine blk_alloc ?_ _)); refine blk_put (cs := #[.int .i64 0, .int .i64 a1, .string (⟨#[]⟩ : ByteArray), .int .u64 0]) ?_ 0 _ rfl; (with_reducible repeat (first | refine blk_drewN ?_ _ | refine blk_drew ?_ | refine blk_alloc ?_ _)); refine blk_put (cs := #[.int .i64 0, .int .i64 a1, .string (⟨#[]⟩ : ByteArray), .int .u64 0]) ?_ 3 _ rfl; (with_reducible repeat (first | refine blk_drewN ?_ _ | refine blk_drew ?_ | refine blk_alloc ?_ _)); refine blk_put (cs := #[.int .i64 0, .int .i64 a1, .string (⟨#[]⟩ : ByteArray), .int .u64 0]) ?_ 2 _ rfl; (with_reducible repeat (first | refine blk_drewN ?_ _ | refine blk_drew ?_ | refine blk_alloc ?_ _)); refine blk_put (cs := #[.int .i64 0, .int .i64 0, .string (⟨#[]⟩ : ByteArray), .int .u64 0]) ?_ 1 _ rfl; (with_reducible repeat (first | refine blk_drewN ?_ _ | refine blk_drew ?_ | refine blk_alloc ?_ _)); refine blk_put (cs := #[.int .i64 0, .int .i64 0, .string (⟨#[]⟩ : ByteArray), .int .u64 0]) ?_ 0 _ rfl; (with_reducible repeat (first | refine blk_drewN ?_ _ | refine blk_drew ?_ | refine blk_alloc ?_ _)); exact BK141.out⟩, ⟨by repeat (first | (with_reducible first | exact HB.out | apply below_alloc | apply pw_below_drewN | apply below_drew1 | refine below_set ?_ GE140.out | refine below_set ?_ GE141.out) | exact HB.out)⟩⟩
          case rest =>
            clear HC35
            try clear c1
            try clear c2
            try clear p2
            try clear c3
            try clear c3b0
            try clear c4
            try clear c4b0
            try clear p4
            try clear q4
            try clear hx4
            try clear p5
            try clear q5
            try clear hx5
            try clear p6
            try clear c7
            try clear c9
            try clear c9b0
            try clear c10
            try clear c10b0
            try clear c10b1
            try clear c11
            try clear c11b0
            try clear c11b1
            try clear c14
            try clear c18
            try clear c20
            try clear c20b0
            try clear c21
            try clear c21b0
            try clear c21b1
            try clear c22
            try clear c22b0
            try clear c22b1
            try clear c24
            try clear c26
            try clear c27
            try clear c32
            try clear c38
            try clear c40
            try clear c40b0
            try clear c42
            try clear c42b0
            try clear p43
            try clear q43
            try clear hx43
            try clear c44
            try clear c44b0
            try clear c44b1
            try clear c45
            try clear c45b0
            try clear c45b1
            try clear c46
            try clear c46b0
            try clear c46b1
            try clear c47
            try clear c47b0
            try clear c47b1
            try clear hcz15_0
            try clear hcz15_1
            try clear hcz15_2
            try clear hcz15_3
            try clear hcz16_0
            try clear hcz16_1
            try clear hcz16_2
            try clear hcz16_3
            try clear hcz28_0
            try clear hcz28_1
            try clear hcz28_2
            try clear hcz28_3
            try clear hcz29_0
            try clear hcz29_1
            try clear hcz29_2
            try clear hcz29_3
            try clear hcz33_0
            try clear hcz33_1
            try clear hcz33_2
            try clear hcz33_3
            try clear hcz34_0
            try clear hcz34_1
            try clear hcz34_2
            try clear hcz34_3
            try clear hcz39_0
            try clear hcz39_1
            try clear hcz39_2
            try clear hcz39_3
            try clear hfz15_0
            try clear hfz15_1
            try clear hfz15_2
            try clear hfz15_3
            try clear hfz16_0
            try clear hfz16_1
            try clear hfz16_2
            try clear hfz16_3
            try clear hfz28_0
            try clear hfz28_1
            try clear hfz28_2
            try clear hfz28_3
            try clear hfz29_0
            try clear hfz29_1
            try clear hfz29_2
            try clear hfz29_3
            try clear hfz33_0
            try clear hfz33_1
            try clear hfz33_2
            try clear hfz33_3
            try clear hfz34_0
            try clear hfz34_1
            try clear hfz34_2
            try clear hfz34_3
            try clear hfz39_0
            try clear hfz39_1
            try clear hfz39_2
            try clear hfz39_3
            try clear p43
            try clear p5
            try clear q43
            try clear q5
            obtain ⟨kq, x80_34, rfl, HA, HJ34, BK140, BK141, HB⟩ := hcut
            cases kq with
            | zero => exact absurd HA.out (by simp [fairleadref09_One.j0])
            | succ kj34 =>
              have H := HA.out
              clear HA
              simp only [fairleadref09_One.j0] at H
              by_cases c48 : x80_34 = true
              · subst c48
                have H1 : (if 0 ≤ a1 then (if a1 ≤ (wrap64 (a1 + 2)) then (if (wrap64 (a1 + 2)) ≤ (a0.size : Int) then (some (3, a1, a0.extract (a1 : Int).toNat ((wrap64 (a1 + 2)) : Int).toNat, 0, 0)) else (none)) else (none)) else (none)) = some (r1, r2, r3, r4, r5) := by rw [if_pos rfl] at H; exact H
                clear H
                have H := H1
                clear H1
                by_cases c49 : 0 ≤ a1
                · rw [if_pos c49] at H
                  have c49b0 := eq_true c49
                  have c49b1 : decide (0 ≤ a1) = true := decide_eq_true c49
                  clear c49
                  by_cases c50 : a1 ≤ (wrap64 (a1 + 2))
                  · rw [if_pos c50] at H
                    have c50b0 := eq_true c50
                    have c50b1 : decide (a1 ≤ (wrap64 (a1 + 2))) = true := decide_eq_true c50
                    by_cases c51 : (wrap64 (a1 + 2)) ≤ (a0.size : Int)
                    · rw [if_pos c51] at H
                      have c51b0 := eq_true c51
                      have c51b1 : decide ((wrap64 (a1 + 2)) ≤ (a0.size : Int)) = true := decide_eq_true c51
                      simp only [Option.some.injEq, Prod.mk.injEq] at H
                      obtain ⟨rfl, rfl, rfl, rfl, rfl⟩ := H
                      have hnb52 := NB141_140.out
                      have hnc52 := NB140_141.out
                      have hcz53_0 : wc.cell? ⟨gb141, 0, none⟩ = some (.int .i64 3) := (blk_cell BK141.out 0).trans rfl
                      have hcz53_1 : wc.cell? ⟨gb141, 1, none⟩ = some (.int .i64 a1) := (blk_cell BK141.out 1).trans rfl
                      have hcz53_2 : wc.cell? ⟨gb141, 2, none⟩ = some (.string (⟨#[]⟩ : ByteArray)) := (blk_cell BK141.out 2).trans rfl
                      have hcz53_3 : wc.cell? ⟨gb141, 3, none⟩ = some (.int .u64 0) := (blk_cell BK141.out 3).trans rfl
                      have hfz53_0 := blk_frozen BK141.out 0
                      have hfz53_1 := blk_frozen BK141.out 1
                      have hfz53_2 := blk_frozen BK141.out 2
                      have hfz53_3 := blk_frozen BK141.out 3
                      have hcz54_0 : wc.cell? ⟨gb140, 0, none⟩ = some (.int .i64 0) := (blk_cell BK140.out 0).trans rfl
                      have hcz54_1 : wc.cell? ⟨gb140, 1, none⟩ = some (.int .i64 0) := (blk_cell BK140.out 1).trans rfl
                      have hcz54_2 : wc.cell? ⟨gb140, 2, none⟩ = some (.string (⟨#[]⟩ : ByteArray)) := (blk_cell BK140.out 2).trans rfl
                      have hcz54_3 : wc.cell? ⟨gb140, 3, none⟩ = some (.int .u64 0) := (blk_cell BK140.out 3).trans rfl
                      have hfz54_0 := blk_frozen BK140.out 0
                      have hfz54_1 := blk_frozen BK140.out 1
                      have hfz54_2 := blk_frozen BK140.out 2
                      have hfz54_3 := blk_frozen BK140.out 3
                      go_wp2
                      refine bodyPost_ret (results_ct rfl _ _ gb140 31 #[.int .i64 3, .int .i64 a1, .string (a0.extract (a1 : Int).toNat ((wrap64 (a1 + 2)) : Int).toNat), .int .u64 0] (0, 0) _ rfl (by (with_reducible repeat (first | refine blk_drewN ?_ _ | refine blk_drew ?_ | refine blk_alloc ?_ _)); refine blk_put (cs := #[.int .i64 3, .int .i64 a1, .string (a0.extract (a1 : Int).toNat ((wrap64 (a1 + 2)) : Int).toNat), .int .u64 0]) ?_ 3 _ rfl; (with_reducible repeat (first | refine blk_drewN ?_ _ | refine blk_drew ?_ | refine blk_alloc ?_ _)); refine blk_put (cs := #[.int .i64 3, .int .i64 a1, .string (⟨#[]⟩ : ByteArray), .int .u64 0]) ?_ 2 _ rfl; (with_reducible repeat (first | refine blk_drewN ?_ _ | refine blk_drew ?_ | refine blk_alloc ?_ _)); refine blk_put (cs := #[.int .i64 3, .int .i64 0, .string (⟨#[]⟩ : ByteArray), .int .u64 0]) ?_ 1 _ rfl; (with_reducible repeat (first | refine blk_drewN ?_ _ | refine blk_drew ?_ | refine blk_alloc ?_ _)); refine blk_put (cs := #[.int .i64 0, .int .i64 0, .string (⟨#[]⟩ : ByteArray), .int .u64 0]) ?_ 0 _ rfl; (with_reducible repeat (first | refine blk_drewN ?_ _ | refine blk_drew ?_ | refine blk_alloc ?_ _)); refine blk_far ?_ NB140_141.out _; (with_reducible repeat (first | refine blk_drewN ?_ _ | refine blk_drew ?_ | refine blk_alloc ?_ _)); exact BK140.out) Try.underlying31 rfl (by kernel_rfl)) rfl ?_
                      exact ⟨by first | rfl | (simp [errW_none, errW_some] <;> rfl) | (simp [*, errW_none, errW_some] <;> rfl), by repeat (first | (with_reducible first | exact HB.out | apply below_alloc | apply pw_below_drewN | apply below_drew1 | refine below_set ?_ GE140.out | refine below_set ?_ GE141.out) | exact HB.out)⟩
                    · rw [if_neg c51] at H
                      exact absurd H (by simp)
                  · rw [if_neg c50] at H
                    exact absurd H (by simp)
                · rw [if_neg c49] at H
                  exact absurd H (by simp)
              · replace c48 := Bool.eq_false_iff.mpr c48
                subst c48
                have H1 : (if (bt a0 a1) = 59 then (if 0 ≤ a1 then (if a1 ≤ (wrap64 (a1 + 1)) then (if (wrap64 (a1 + 1)) ≤ (a0.size : Int) then (some (3, a1, a0.extract (a1 : Int).toNat ((wrap64 (a1 + 1)) : Int).toNat, 0, 0)) else (none)) else (none)) else (none)) else (if (bt a0 a1) = 44 then (if 0 ≤ a1 then (if a1 ≤ (wrap64 (a1 + 1)) then (if (wrap64 (a1 + 1)) ≤ (a0.size : Int) then (some (3, a1, a0.extract (a1 : Int).toNat ((wrap64 (a1 + 1)) : Int).toNat, 0, 0)) else (none)) else (none)) else (none)) else (if (bt a0 a1) = 60 then (if 0 ≤ a1 then (if a1 ≤ (wrap64 (a1 + 1)) then (if (wrap64 (a1 + 1)) ≤ (a0.size : Int) then (some (3, a1, a0.extract (a1 : Int).toNat ((wrap64 (a1 + 1)) : Int).toNat, 0, 0)) else (none)) else (none)) else (none)) else (if (bt a0 a1) = 62 then (if 0 ≤ a1 then (if a1 ≤ (wrap64 (a1 + 1)) then (if (wrap64 (a1 + 1)) ≤ (a0.size : Int) then (some (3, a1, a0.extract (a1 : Int).toNat ((wrap64 (a1 + 1)) : Int).toNat, 0, 0)) else (none)) else (none)) else (none)) else (if (bt a0 a1) = 38 then (if 0 ≤ a1 then (if a1 ≤ (wrap64 (a1 + 1)) then (if (wrap64 (a1 + 1)) ≤ (a0.size : Int) then (some (3, a1, a0.extract (a1 : Int).toNat ((wrap64 (a1 + 1)) : Int).toNat, 0, 0)) else (none)) else (none)) else (none)) else (some (0, 0, (⟨#[]⟩ : ByteArray), 0, 5))))))) = some (r1, r2, r3, r4, r5) := by rw [if_neg (show ¬ (false = true) by decide)] at H; exact H
                clear H
                have H := H1
                clear H1
                by_cases c55 : (bt a0 a1) = 59
                · rw [if_pos c55] at H
                  have c55b0 : ((bt a0 a1) == 59) = true := beq_iff_eq.mpr c55
                  have c55b1 : ((bt a0 a1) != 59) = false := bne_eq_false_iff_eq.mpr c55
                  clear c55
                  by_cases c56 : 0 ≤ a1
                  · rw [if_pos c56] at H
                    have c56b0 := eq_true c56
                    have c56b1 : decide (0 ≤ a1) = true := decide_eq_true c56
                    clear c56
                    by_cases c57 : a1 ≤ (wrap64 (a1 + 1))
                    · rw [if_pos c57] at H
                      have c57b0 := eq_true c57
                      have c57b1 : decide (a1 ≤ (wrap64 (a1 + 1))) = true := decide_eq_true c57
                      by_cases c58 : (wrap64 (a1 + 1)) ≤ (a0.size : Int)
                      · rw [if_pos c58] at H
                        have c58b0 := eq_true c58
                        have c58b1 : decide ((wrap64 (a1 + 1)) ≤ (a0.size : Int)) = true := decide_eq_true c58
                        simp only [Option.some.injEq, Prod.mk.injEq] at H
                        obtain ⟨rfl, rfl, rfl, rfl, rfl⟩ := H
                        have hnb59 := NB141_140.out
                        have hnc59 := NB140_141.out
                        have hcz60_0 : wc.cell? ⟨gb141, 0, none⟩ = some (.int .i64 3) := (blk_cell BK141.out 0).trans rfl
                        have hcz60_1 : wc.cell? ⟨gb141, 1, none⟩ = some (.int .i64 a1) := (blk_cell BK141.out 1).trans rfl
                        have hcz60_2 : wc.cell? ⟨gb141, 2, none⟩ = some (.string (⟨#[]⟩ : ByteArray)) := (blk_cell BK141.out 2).trans rfl
                        have hcz60_3 : wc.cell? ⟨gb141, 3, none⟩ = some (.int .u64 0) := (blk_cell BK141.out 3).trans rfl
                        have hfz60_0 := blk_frozen BK141.out 0
                        have hfz60_1 := blk_frozen BK141.out 1
                        have hfz60_2 := blk_frozen BK141.out 2
                        have hfz60_3 := blk_frozen BK141.out 3
                        have hcz61_0 : wc.cell? ⟨gb140, 0, none⟩ = some (.int .i64 0) := (blk_cell BK140.out 0).trans rfl
                        have hcz61_1 : wc.cell? ⟨gb140, 1, none⟩ = some (.int .i64 0) := (blk_cell BK140.out 1).trans rfl
                        have hcz61_2 : wc.cell? ⟨gb140, 2, none⟩ = some (.string (⟨#[]⟩ : ByteArray)) := (blk_cell BK140.out 2).trans rfl
                        have hcz61_3 : wc.cell? ⟨gb140, 3, none⟩ = some (.int .u64 0) := (blk_cell BK140.out 3).trans rfl
                        have hfz61_0 := blk_frozen BK140.out 0
                        have hfz61_1 := blk_frozen BK140.out 1
                        have hfz61_2 := blk_frozen BK140.out 2
                        have hfz61_3 := blk_frozen BK140.out 3
                        go_wp2
                        refine bodyPost_ret (results_ct rfl _ _ gb140 31 #[.int .i64 3, .int .i64 a1, .string (a0.extract (a1 : Int).toNat ((wrap64 (a1 + 1)) : Int).toNat), .int .u64 0] (0, 0) _ rfl (by (with_reducible repeat (first | refine blk_drewN ?_ _ | refine blk_drew ?_ | refine blk_alloc ?_ _)); refine blk_put (cs := #[.int .i64 3, .int .i64 a1, .string (a0.extract (a1 : Int).toNat ((wrap64 (a1 + 1)) : Int).toNat), .int .u64 0]) ?_ 3 _ rfl; (with_reducible repeat (first | refine blk_drewN ?_ _ | refine blk_drew ?_ | refine blk_alloc ?_ _)); refine blk_put (cs := #[.int .i64 3, .int .i64 a1, .string (⟨#[]⟩ : ByteArray), .int .u64 0]) ?_ 2 _ rfl; (with_reducible repeat (first | refine blk_drewN ?_ _ | refine blk_drew ?_ | refine blk_alloc ?_ _)); refine blk_put (cs := #[.int .i64 3, .int .i64 0, .string (⟨#[]⟩ : ByteArray), .int .u64 0]) ?_ 1 _ rfl; (with_reducible repeat (first | refine blk_drewN ?_ _ | refine blk_drew ?_ | refine blk_alloc ?_ _)); refine blk_put (cs := #[.int .i64 0, .int .i64 0, .string (⟨#[]⟩ : ByteArray), .int .u64 0]) ?_ 0 _ rfl; (with_reducible repeat (first | refine blk_drewN ?_ _ | refine blk_drew ?_ | refine blk_alloc ?_ _)); refine blk_far ?_ NB140_141.out _; (with_reducible repeat (first | refine blk_drewN ?_ _ | refine blk_drew ?_ | refine blk_alloc ?_ _)); exact BK140.out) Try.underlying31 rfl (by kernel_rfl)) rfl ?_
                        exact ⟨by first | rfl | (simp [errW_none, errW_some] <;> rfl) | (simp [*, errW_none, errW_some] <;> rfl), by repeat (first | (with_reducible first | exact HB.out | apply below_alloc | apply pw_below_drewN | apply below_drew1 | refine below_set ?_ GE140.out | refine below_set ?_ GE141.out) | exact HB.out)⟩
                      · rw [if_neg c58] at H
                        exact absurd H (by simp)
                    · rw [if_neg c57] at H
                      exact absurd H (by simp)
                  · rw [if_neg c56] at H
                    exact absurd H (by simp)
                · rw [if_neg c55] at H
                  have c55b0 : ((bt a0 a1) == 59) = false := beq_eq_false_iff_ne.mpr c55
                  have c55b1 : ((bt a0 a1) != 59) = true := bne_iff_ne.mpr c55
                  by_cases c62 : (bt a0 a1) = 44
                  · rw [if_pos c62] at H
                    have c62b0 : ((bt a0 a1) == 44) = true := beq_iff_eq.mpr c62
                    have c62b1 : ((bt a0 a1) != 44) = false := bne_eq_false_iff_eq.mpr c62
                    clear c62
                    by_cases c63 : 0 ≤ a1
                    · rw [if_pos c63] at H
                      have c63b0 := eq_true c63
                      have c63b1 : decide (0 ≤ a1) = true := decide_eq_true c63
                      clear c63
                      by_cases c64 : a1 ≤ (wrap64 (a1 + 1))
                      · rw [if_pos c64] at H
                        have c64b0 := eq_true c64
                        have c64b1 : decide (a1 ≤ (wrap64 (a1 + 1))) = true := decide_eq_true c64
                        by_cases c65 : (wrap64 (a1 + 1)) ≤ (a0.size : Int)
                        · rw [if_pos c65] at H
                          have c65b0 := eq_true c65
                          have c65b1 : decide ((wrap64 (a1 + 1)) ≤ (a0.size : Int)) = true := decide_eq_true c65
                          simp only [Option.some.injEq, Prod.mk.injEq] at H
                          obtain ⟨rfl, rfl, rfl, rfl, rfl⟩ := H
                          have hnb66 := NB141_140.out
                          have hnc66 := NB140_141.out
                          have hcz67_0 : wc.cell? ⟨gb141, 0, none⟩ = some (.int .i64 3) := (blk_cell BK141.out 0).trans rfl
                          have hcz67_1 : wc.cell? ⟨gb141, 1, none⟩ = some (.int .i64 a1) := (blk_cell BK141.out 1).trans rfl
                          have hcz67_2 : wc.cell? ⟨gb141, 2, none⟩ = some (.string (⟨#[]⟩ : ByteArray)) := (blk_cell BK141.out 2).trans rfl
                          have hcz67_3 : wc.cell? ⟨gb141, 3, none⟩ = some (.int .u64 0) := (blk_cell BK141.out 3).trans rfl
                          have hfz67_0 := blk_frozen BK141.out 0
                          have hfz67_1 := blk_frozen BK141.out 1
                          have hfz67_2 := blk_frozen BK141.out 2
                          have hfz67_3 := blk_frozen BK141.out 3
                          have hcz68_0 : wc.cell? ⟨gb140, 0, none⟩ = some (.int .i64 0) := (blk_cell BK140.out 0).trans rfl
                          have hcz68_1 : wc.cell? ⟨gb140, 1, none⟩ = some (.int .i64 0) := (blk_cell BK140.out 1).trans rfl
                          have hcz68_2 : wc.cell? ⟨gb140, 2, none⟩ = some (.string (⟨#[]⟩ : ByteArray)) := (blk_cell BK140.out 2).trans rfl
                          have hcz68_3 : wc.cell? ⟨gb140, 3, none⟩ = some (.int .u64 0) := (blk_cell BK140.out 3).trans rfl
                          have hfz68_0 := blk_frozen BK140.out 0
                          have hfz68_1 := blk_frozen BK140.out 1
                          have hfz68_2 := blk_frozen BK140.out 2
                          have hfz68_3 := blk_frozen BK140.out 3
                          go_wp2
                          refine bodyPost_ret (results_ct rfl _ _ gb140 31 #[.int .i64 3, .int .i64 a1, .string (a0.extract (a1 : Int).toNat ((wrap64 (a1 + 1)) : Int).toNat), .int .u64 0] (0, 0) _ rfl (by (with_reducible repeat (first | refine blk_drewN ?_ _ | refine blk_drew ?_ | refine blk_alloc ?_ _)); refine blk_put (cs := #[.int .i64 3, .int .i64 a1, .string (a0.extract (a1 : Int).toNat ((wrap64 (a1 + 1)) : Int).toNat), .int .u64 0]) ?_ 3 _ rfl; (with_reducible repeat (first | refine blk_drewN ?_ _ | refine blk_drew ?_ | refine blk_alloc ?_ _)); refine blk_put (cs := #[.int .i64 3, .int .i64 a1, .string (⟨#[]⟩ : ByteArray), .int .u64 0]) ?_ 2 _ rfl; (with_reducible repeat (first | refine blk_drewN ?_ _ | refine blk_drew ?_ | refine blk_alloc ?_ _)); refine blk_put (cs := #[.int .i64 3, .int .i64 0, .string (⟨#[]⟩ : ByteArray), .int .u64 0]) ?_ 1 _ rfl; (with_reducible repeat (first | refine blk_drewN ?_ _ | refine blk_drew ?_ | refine blk_alloc ?_ _)); refine blk_put (cs := #[.int .i64 0, .int .i64 0, .string (⟨#[]⟩ : ByteArray), .int .u64 0]) ?_ 0 _ rfl; (with_reducible repeat (first | refine blk_drewN ?_ _ | refine blk_drew ?_ | refine blk_alloc ?_ _)); refine blk_far ?_ NB140_141.out _; (with_reducible repeat (first | refine blk_drewN ?_ _ | refine blk_drew ?_ | refine blk_alloc ?_ _)); exact BK140.out) Try.underlying31 rfl (by kernel_rfl)) rfl ?_
                          exact ⟨by first | rfl | (simp [errW_none, errW_some] <;> rfl) | (simp [*, errW_none, errW_some] <;> rfl), by repeat (first | (with_reducible first | exact HB.out | apply below_alloc | apply pw_below_drewN | apply below_drew1 | refine below_set ?_ GE140.out | refine below_set ?_ GE141.out) | exact HB.out)⟩
                        · rw [if_neg c65] at H
                          exact absurd H (by simp)
                      · rw [if_neg c64] at H
                        exact absurd H (by simp)
                    · rw [if_neg c63] at H
                      exact absurd H (by simp)
                  · rw [if_neg c62] at H
                    have c62b0 : ((bt a0 a1) == 44) = false := beq_eq_false_iff_ne.mpr c62
                    have c62b1 : ((bt a0 a1) != 44) = true := bne_iff_ne.mpr c62
                    by_cases c69 : (bt a0 a1) = 60
                    · rw [if_pos c69] at H
                      have c69b0 : ((bt a0 a1) == 60) = true := beq_iff_eq.mpr c69
                      have c69b1 : ((bt a0 a1) != 60) = false := bne_eq_false_iff_eq.mpr c69
                      clear c69
                      by_cases c70 : 0 ≤ a1
                      · rw [if_pos c70] at H
                        have c70b0 := eq_true c70
                        have c70b1 : decide (0 ≤ a1) = true := decide_eq_true c70
                        clear c70
                        by_cases c71 : a1 ≤ (wrap64 (a1 + 1))
                        · rw [if_pos c71] at H
                          have c71b0 := eq_true c71
                          have c71b1 : decide (a1 ≤ (wrap64 (a1 + 1))) = true := decide_eq_true c71
                          by_cases c72 : (wrap64 (a1 + 1)) ≤ (a0.size : Int)
                          · rw [if_pos c72] at H
                            have c72b0 := eq_true c72
                            have c72b1 : decide ((wrap64 (a1 + 1)) ≤ (a0.size : Int)) = true := decide_eq_true c72
                            simp only [Option.some.injEq, Prod.mk.injEq] at H
                            obtain ⟨rfl, rfl, rfl, rfl, rfl⟩ := H
                            have hnb73 := NB141_140.out
                            have hnc73 := NB140_141.out
                            have hcz74_0 : wc.cell? ⟨gb141, 0, none⟩ = some (.int .i64 3) := (blk_cell BK141.out 0).trans rfl
                            have hcz74_1 : wc.cell? ⟨gb141, 1, none⟩ = some (.int .i64 a1) := (blk_cell BK141.out 1).trans rfl
                            have hcz74_2 : wc.cell? ⟨gb141, 2, none⟩ = some (.string (⟨#[]⟩ : ByteArray)) := (blk_cell BK141.out 2).trans rfl
                            have hcz74_3 : wc.cell? ⟨gb141, 3, none⟩ = some (.int .u64 0) := (blk_cell BK141.out 3).trans rfl
                            have hfz74_0 := blk_frozen BK141.out 0
                            have hfz74_1 := blk_frozen BK141.out 1
                            have hfz74_2 := blk_frozen BK141.out 2
                            have hfz74_3 := blk_frozen BK141.out 3
                            have hcz75_0 : wc.cell? ⟨gb140, 0, none⟩ = some (.int .i64 0) := (blk_cell BK140.out 0).trans rfl
                            have hcz75_1 : wc.cell? ⟨gb140, 1, none⟩ = some (.int .i64 0) := (blk_cell BK140.out 1).trans rfl
                            have hcz75_2 : wc.cell? ⟨gb140, 2, none⟩ = some (.string (⟨#[]⟩ : ByteArray)) := (blk_cell BK140.out 2).trans rfl
                            have hcz75_3 : wc.cell? ⟨gb140, 3, none⟩ = some (.int .u64 0) := (blk_cell BK140.out 3).trans rfl
                            have hfz75_0 := blk_frozen BK140.out 0
                            have hfz75_1 := blk_frozen BK140.out 1
                            have hfz75_2 := blk_frozen BK140.out 2
                            have hfz75_3 := blk_frozen BK140.out 3
                            go_wp2
                            refine bodyPost_ret (results_ct rfl _ _ gb140 31 #[.int .i64 3, .int .i64 a1, .string (a0.extract (a1 : Int).toNat ((wrap64 (a1 + 1)) : Int).toNat), .int .u64 0] (0, 0) _ rfl (by (with_reducible repeat (first | refine blk_drewN ?_ _ | refine blk_drew ?_ | refine blk_alloc ?_ _)); refine blk_put (cs := #[.int .i64 3, .int .i64 a1, .string (a0.extract (a1 : Int).toNat ((wrap64 (a1 + 1)) : Int).toNat), .int .u64 0]) ?_ 3 _ rfl; (with_reducible repeat (first | refine blk_drewN ?_ _ | refine blk_drew ?_ | refine blk_alloc ?_ _)); refine blk_put (cs := #[.int .i64 3, .int .i64 a1, .string (⟨#[]⟩ : ByteArray), .int .u64 0]) ?_ 2 _ rfl; (with_reducible repeat (first | refine blk_drewN ?_ _ | refine blk_drew ?_ | refine blk_alloc ?_ _)); refine blk_put (cs := #[.int .i64 3, .int .i64 0, .string (⟨#[]⟩ : ByteArray), .int .u64 0]) ?_ 1 _ rfl; (with_reducible repeat (first | refine blk_drewN ?_ _ | refine blk_drew ?_ | refine blk_alloc ?_ _)); refine blk_put (cs := #[.int .i64 0, .int .i64 0, .string (⟨#[]⟩ : ByteArray), .int .u64 0]) ?_ 0 _ rfl; (with_reducible repeat (first | refine blk_drewN ?_ _ | refine blk_drew ?_ | refine blk_alloc ?_ _)); refine blk_far ?_ NB140_141.out _; (with_reducible repeat (first | refine blk_drewN ?_ _ | refine blk_drew ?_ | refine blk_alloc ?_ _)); exact BK140.out) Try.underlying31 rfl (by kernel_rfl)) rfl ?_
                            exact ⟨by first | rfl | (simp [errW_none, errW_some] <;> rfl) | (simp [*, errW_none, errW_some] <;> rfl), by repeat (first | (with_reducible first | exact HB.out | apply below_alloc | apply pw_below_drewN | apply below_drew1 | refine below_set ?_ GE140.out | refine below_set ?_ GE141.out) | exact HB.out)⟩
                          · rw [if_neg c72] at H
                            exact absurd H (by simp)
                        · rw [if_neg c71] at H
                          exact absurd H (by simp)
                      · rw [if_neg c70] at H
                        exact absurd H (by simp)
                    · rw [if_neg c69] at H
                      have c69b0 : ((bt a0 a1) == 60) = false := beq_eq_false_iff_ne.mpr c69
                      have c69b1 : ((bt a0 a1) != 60) = true := bne_iff_ne.mpr c69
                      by_cases c76 : (bt a0 a1) = 62
                      · rw [if_pos c76] at H
                        have c76b0 : ((bt a0 a1) == 62) = true := beq_iff_eq.mpr c76
                        have c76b1 : ((bt a0 a1) != 62) = false := bne_eq_false_iff_eq.mpr c76
                        clear c76
                        by_cases c77 : 0 ≤ a1
                        · rw [if_pos c77] at H
                          have c77b0 := eq_true c77
                          have c77b1 : decide (0 ≤ a1) = true := decide_eq_true c77
                          clear c77
                          by_cases c78 : a1 ≤ (wrap64 (a1 + 1))
                          · rw [if_pos c78] at H
                            have c78b0 := eq_true c78
                            have c78b1 : decide (a1 ≤ (wrap64 (a1 + 1))) = true := decide_eq_true c78
                            by_cases c79 : (wrap64 (a1 + 1)) ≤ (a0.size : Int)
                            · rw [if_pos c79] at H
                              have c79b0 := eq_true c79
                              have c79b1 : decide ((wrap64 (a1 + 1)) ≤ (a0.size : Int)) = true := decide_eq_true c79
                              simp only [Option.some.injEq, Prod.mk.injEq] at H
                              obtain ⟨rfl, rfl, rfl, rfl, rfl⟩ := H
                              have hnb80 := NB141_140.out
                              have hnc80 := NB140_141.out
                              have hcz81_0 : wc.cell? ⟨gb141, 0, none⟩ = some (.int .i64 3) := (blk_cell BK141.out 0).trans rfl
                              have hcz81_1 : wc.cell? ⟨gb141, 1, none⟩ = some (.int .i64 a1) := (blk_cell BK141.out 1).trans rfl
                              have hcz81_2 : wc.cell? ⟨gb141, 2, none⟩ = some (.string (⟨#[]⟩ : ByteArray)) := (blk_cell BK141.out 2).trans rfl
                              have hcz81_3 : wc.cell? ⟨gb141, 3, none⟩ = some (.int .u64 0) := (blk_cell BK141.out 3).trans rfl
                              have hfz81_0 := blk_frozen BK141.out 0
                              have hfz81_1 := blk_frozen BK141.out 1
                              have hfz81_2 := blk_frozen BK141.out 2
                              have hfz81_3 := blk_frozen BK141.out 3
                              have hcz82_0 : wc.cell? ⟨gb140, 0, none⟩ = some (.int .i64 0) := (blk_cell BK140.out 0).trans rfl
                              have hcz82_1 : wc.cell? ⟨gb140, 1, none⟩ = some (.int .i64 0) := (blk_cell BK140.out 1).trans rfl
                              have hcz82_2 : wc.cell? ⟨gb140, 2, none⟩ = some (.string (⟨#[]⟩ : ByteArray)) := (blk_cell BK140.out 2).trans rfl
                              have hcz82_3 : wc.cell? ⟨gb140, 3, none⟩ = some (.int .u64 0) := (blk_cell BK140.out 3).trans rfl
                              have hfz82_0 := blk_frozen BK140.out 0
                              have hfz82_1 := blk_frozen BK140.out 1
                              have hfz82_2 := blk_frozen BK140.out 2
                              have hfz82_3 := blk_frozen BK140.out 3
                              go_wp2
                              refine bodyPost_ret (results_ct rfl _ _ gb140 31 #[.int .i64 3, .int .i64 a1, .string (a0.extract (a1 : Int).toNat ((wrap64 (a1 + 1)) : Int).toNat), .int .u64 0] (0, 0) _ rfl (by (with_reducible repeat (first | refine blk_drewN ?_ _ | refine blk_drew ?_ | refine blk_alloc ?_ _)); refine blk_put (cs := #[.int .i64 3, .int .i64 a1, .string (a0.extract (a1 : Int).toNat ((wrap64 (a1 + 1)) : Int).toNat), .int .u64 0]) ?_ 3 _ rfl; (with_reducible repeat (first | refine blk_drewN ?_ _ | refine blk_drew ?_ | refine blk_alloc ?_ _)); refine blk_put (cs := #[.int .i64 3, .int .i64 a1, .string (⟨#[]⟩ : ByteArray), .int .u64 0]) ?_ 2 _ rfl; (with_reducible repeat (first | refine blk_drewN ?_ _ | refine blk_drew ?_ | refine blk_alloc ?_ _)); refine blk_put (cs := #[.int .i64 3, .int .i64 0, .string (⟨#[]⟩ : ByteArray), .int .u64 0]) ?_ 1 _ rfl; (with_reducible repeat (first | refine blk_drewN ?_ _ | refine blk_drew ?_ | refine blk_alloc ?_ _)); refine blk_put (cs := #[.int .i64 0, .int .i64 0, .string (⟨#[]⟩ : ByteArray), .int .u64 0]) ?_ 0 _ rfl; (with_reducible repeat (first | refine blk_drewN ?_ _ | refine blk_drew ?_ | refine blk_alloc ?_ _)); refine blk_far ?_ NB140_141.out _; (with_reducible repeat (first | refine blk_drewN ?_ _ | refine blk_drew ?_ | refine blk_alloc ?_ _)); exact BK140.out) Try.underlying31 rfl (by kernel_rfl)) rfl ?_
                              exact ⟨by first | rfl | (simp [errW_none, errW_some] <;> rfl) | (simp [*, errW_none, errW_some] <;> rfl), by repeat (first | (with_reducible first | exact HB.out | apply below_alloc | apply pw_below_drewN | apply below_drew1 | refine below_set ?_ GE140.out | refine below_set ?_ GE141.out) | exact HB.out)⟩
                            · rw [if_neg c79] at H
                              exact absurd H (by simp)
                          · rw [if_neg c78] at H
                            exact absurd H (by simp)
                        · rw [if_neg c77] at H
                          exact absurd H (by simp)
                      · rw [if_neg c76] at H
                        have c76b0 : ((bt a0 a1) == 62) = false := beq_eq_false_iff_ne.mpr c76
                        have c76b1 : ((bt a0 a1) != 62) = true := bne_iff_ne.mpr c76
                        by_cases c83 : (bt a0 a1) = 38
                        · rw [if_pos c83] at H
                          have c83b0 : ((bt a0 a1) == 38) = true := beq_iff_eq.mpr c83
                          have c83b1 : ((bt a0 a1) != 38) = false := bne_eq_false_iff_eq.mpr c83
                          clear c83
                          by_cases c84 : 0 ≤ a1
                          · rw [if_pos c84] at H
                            have c84b0 := eq_true c84
                            have c84b1 : decide (0 ≤ a1) = true := decide_eq_true c84
                            clear c84
                            by_cases c85 : a1 ≤ (wrap64 (a1 + 1))
                            · rw [if_pos c85] at H
                              have c85b0 := eq_true c85
                              have c85b1 : decide (a1 ≤ (wrap64 (a1 + 1))) = true := decide_eq_true c85
                              by_cases c86 : (wrap64 (a1 + 1)) ≤ (a0.size : Int)
                              · rw [if_pos c86] at H
                                have c86b0 := eq_true c86
                                have c86b1 : decide ((wrap64 (a1 + 1)) ≤ (a0.size : Int)) = true := decide_eq_true c86
                                simp only [Option.some.injEq, Prod.mk.injEq] at H
                                obtain ⟨rfl, rfl, rfl, rfl, rfl⟩ := H
                                have hnb87 := NB141_140.out
                                have hnc87 := NB140_141.out
                                have hcz88_0 : wc.cell? ⟨gb141, 0, none⟩ = some (.int .i64 3) := (blk_cell BK141.out 0).trans rfl
                                have hcz88_1 : wc.cell? ⟨gb141, 1, none⟩ = some (.int .i64 a1) := (blk_cell BK141.out 1).trans rfl
                                have hcz88_2 : wc.cell? ⟨gb141, 2, none⟩ = some (.string (⟨#[]⟩ : ByteArray)) := (blk_cell BK141.out 2).trans rfl
                                have hcz88_3 : wc.cell? ⟨gb141, 3, none⟩ = some (.int .u64 0) := (blk_cell BK141.out 3).trans rfl
                                have hfz88_0 := blk_frozen BK141.out 0
                                have hfz88_1 := blk_frozen BK141.out 1
                                have hfz88_2 := blk_frozen BK141.out 2
                                have hfz88_3 := blk_frozen BK141.out 3
                                have hcz89_0 : wc.cell? ⟨gb140, 0, none⟩ = some (.int .i64 0) := (blk_cell BK140.out 0).trans rfl
                                have hcz89_1 : wc.cell? ⟨gb140, 1, none⟩ = some (.int .i64 0) := (blk_cell BK140.out 1).trans rfl
                                have hcz89_2 : wc.cell? ⟨gb140, 2, none⟩ = some (.string (⟨#[]⟩ : ByteArray)) := (blk_cell BK140.out 2).trans rfl
                                have hcz89_3 : wc.cell? ⟨gb140, 3, none⟩ = some (.int .u64 0) := (blk_cell BK140.out 3).trans rfl
                                have hfz89_0 := blk_frozen BK140.out 0
                                have hfz89_1 := blk_frozen BK140.out 1
                                have hfz89_2 := blk_frozen BK140.out 2
                                have hfz89_3 := blk_frozen BK140.out 3
                                go_wp2
                                refine bodyPost_ret (results_ct rfl _ _ gb140 31 #[.int .i64 3, .int .i64 a1, .string (a0.extract (a1 : Int).toNat ((wrap64 (a1 + 1)) : Int).toNat), .int .u64 0] (0, 0) _ rfl (by (with_reducible repeat (first | refine blk_drewN ?_ _ | refine blk_drew ?_ | refine blk_alloc ?_ _)); refine blk_put (cs := #[.int .i64 3, .int .i64 a1, .string (a0.extract (a1 : Int).toNat ((wrap64 (a1 + 1)) : Int).toNat), .int .u64 0]) ?_ 3 _ rfl; (with_reducible repeat (first | refine blk_drewN ?_ _ | refine blk_drew ?_ | refine blk_alloc ?_ _)); refine blk_put (cs := #[.int .i64 3, .int .i64 a1, .string (⟨#[]⟩ : ByteArray), .int .u64 0]) ?_ 2 _ rfl; (with_reducible repeat (first | refine blk_drewN ?_ _ | refine blk_drew ?_ | refine blk_alloc ?_ _)); refine blk_put (cs := #[.int .i64 3, .int .i64 0, .string (⟨#[]⟩ : ByteArray), .int .u64 0]) ?_ 1 _ rfl; (with_reducible repeat (first | refine blk_drewN ?_ _ | refine blk_drew ?_ | refine blk_alloc ?_ _)); refine blk_put (cs := #[.int .i64 0, .int .i64 0, .string (⟨#[]⟩ : ByteArray), .int .u64 0]) ?_ 0 _ rfl; (with_reducible repeat (first | refine blk_drewN ?_ _ | refine blk_drew ?_ | refine blk_alloc ?_ _)); refine blk_far ?_ NB140_141.out _; (with_reducible repeat (first | refine blk_drewN ?_ _ | refine blk_drew ?_ | refine blk_alloc ?_ _)); exact BK140.out) Try.underlying31 rfl (by kernel_rfl)) rfl ?_
                                exact ⟨by first | rfl | (simp [errW_none, errW_some] <;> rfl) | (simp [*, errW_none, errW_some] <;> rfl), by repeat (first | (with_reducible first | exact HB.out | apply below_alloc | apply pw_below_drewN | apply below_drew1 | refine below_set ?_ GE140.out | refine below_set ?_ GE141.out) | exact HB.out)⟩
                              · rw [if_neg c86] at H
                                exact absurd H (by simp)
                            · rw [if_neg c85] at H
                              exact absurd H (by simp)
                          · rw [if_neg c84] at H
                            exact absurd H (by simp)
                        · rw [if_neg c83] at H
                          have c83b0 : ((bt a0 a1) == 38) = false := beq_eq_false_iff_ne.mpr c83
                          have c83b1 : ((bt a0 a1) != 38) = true := bne_iff_ne.mpr c83
                          simp only [Option.some.injEq, Prod.mk.injEq] at H
                          obtain ⟨rfl, rfl, rfl, rfl, rfl⟩ := H
                          have hnb90 := NB140_141.out
                          have hnc90 := NB141_140.out
                          have hcz91_0 : wc.cell? ⟨gb140, 0, none⟩ = some (.int .i64 0) := (blk_cell BK140.out 0).trans rfl
                          have hcz91_1 : wc.cell? ⟨gb140, 1, none⟩ = some (.int .i64 0) := (blk_cell BK140.out 1).trans rfl
                          have hcz91_2 : wc.cell? ⟨gb140, 2, none⟩ = some (.string (⟨#[]⟩ : ByteArray)) := (blk_cell BK140.out 2).trans rfl
                          have hcz91_3 : wc.cell? ⟨gb140, 3, none⟩ = some (.int .u64 0) := (blk_cell BK140.out 3).trans rfl
                          have hfz91_0 := blk_frozen BK140.out 0
                          have hfz91_1 := blk_frozen BK140.out 1
                          have hfz91_2 := blk_frozen BK140.out 2
                          have hfz91_3 := blk_frozen BK140.out 3
                          go_wp2
                          refine bodyPost_ret (results_ct rfl _ _ gb140 31 #[.int .i64 0, .int .i64 0, .string (⟨#[]⟩ : ByteArray), .int .u64 0] (0, 0) _ rfl (by (with_reducible repeat (first | refine blk_drewN ?_ _ | refine blk_drew ?_ | refine blk_alloc ?_ _)); refine blk_put (cs := #[.int .i64 0, .int .i64 0, .string (⟨#[]⟩ : ByteArray), .int .u64 0]) ?_ 3 _ rfl; (with_reducible repeat (first | refine blk_drewN ?_ _ | refine blk_drew ?_ | refine blk_alloc ?_ _)); refine blk_put (cs := #[.int .i64 0, .int .i64 0, .string (⟨#[]⟩ : ByteArray), .int .u64 0]) ?_ 2 _ rfl; (with_reducible repeat (first | refine blk_drewN ?_ _ | refine blk_drew ?_ | refine blk_alloc ?_ _)); refine blk_put (cs := #[.int .i64 0, .int .i64 0, .string (⟨#[]⟩ : ByteArray), .int .u64 0]) ?_ 1 _ rfl; (with_reducible repeat (first | refine blk_drewN ?_ _ | refine blk_drew ?_ | refine blk_alloc ?_ _)); refine blk_put (cs := #[.int .i64 0, .int .i64 0, .string (⟨#[]⟩ : ByteArray), .int .u64 0]) ?_ 0 _ rfl; (with_reducible repeat (first | refine blk_drewN ?_ _ | refine blk_drew ?_ | refine blk_alloc ?_ _)); exact BK140.out) Try.underlying31 rfl (by kernel_rfl)) rfl ?_
                          exact ⟨by first | rfl | (simp [errW_none, errW_some] <;> rfl) | (simp [*, errW_none, errW_some] <;> rfl), by repeat (first | (with_reducible first | exact HB.out | apply below_alloc | apply pw_below_drewN | apply below_drew1 | refine below_set ?_ GE140.out | refine below_set ?_ GE141.out) | exact HB.out)⟩
    · rw [if_neg c4] at H
      exact absurd H (by simp)
  · rw [if_neg c3] at H
    exact absurd H (by simp)

end Go.Proofs.Ytbiccohcikfgeaa.M
