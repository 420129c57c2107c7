-- Laid by a program (wip/tools/myprint.py) out of the loaded program's own print: for each Go function a Lean function and the proof of its contract.
import Derived.Test.YtfahchgglapglaaQMx0
import Derived.Test.YtfahchgglapglaaQMx11
import Derived.Test.YtfahchgglapglaaQMx13
namespace Go.Proofs.Ytfahchgglapglaa.M
open Go.RowKit Go.Proofs.YtfahchgglapglaaW.PrintWords Go.Proofs.YtfahchgglapglaaW.PrintLast Go.Proofs.YtfahchgglapglaaW.PrintMore
attribute [local go_sem] max2_int min2_int max_two min_two max_three min_three max_four min_four   -- for this text's walks alone
set_option linter.unusedVariables false
set_option linter.unusedSimpArgs false
def fairleadref09_All.l0 : Nat → ByteArray → List (S39) → Int → Option ((List (S39)) × Int × Int)
 | 0, _, _, _ => none
 | k + 1, x0, x5, x6 => if x6 < (x0.size : Int) then ((fairleadref09_One.f k x0 x6).bind fun bt154 => (if bt154.2.2.2.2 = 0 then (if x5.length < 3518437208883 then ((fairleadref09_Skip.f k x0 (wrap64 (x6 + (bt154.2.2.1.size : Int)))).bind fun t163 => (fairleadref09_All.l0 k x0 (x5 ++ [(⟨bt154.1, bt154.2.1, bt154.2.2.1, bt154.2.2.2.1⟩ : S39)]) t163)) else (none)) else (some (([] : List (S39)), bt154.2.2.2.2, x6)))) else (if x5.length < 3518437208883 then (some ((x5 ++ [(⟨4, (x0.size : Int), (⟨#[]⟩ : ByteArray), 0⟩ : S39)]), 0, (-1))) else (none))
def fairleadref09_All.f (k : Nat) (a0 : ByteArray) : Option ((List (S39)) × Int × Int) := if (a0.size : Int) > 8192 then (some (([] : List (S39)), 4, 0)) else ((fairleadref09_Skip.f k a0 0).bind fun t150 => (fairleadref09_All.l0 k a0 ([] : List (S39)) t150))
set_option maxHeartbeats 8000000 in
set_option maxRecDepth 100000 in
theorem fairleadref09_All.calls (k : Nat) (a0 : ByteArray) (r1 : List (S39)) (r2 : Int) (r3 : Int) (w : World) (h : fairleadref09_All.f k a0 = some (r1, r2, r3)) :
  Calls Try.prog 21 #[.string a0] w fun e w' => ∃ v0_ : Value, e = .returned (.tuple #[v0_, .int .i64 r2, .int .i64 r3]) ∧ Kd.R k39 39 w' w.heap.size (fun _ => True) v0_ r1 ∧ Below w.heap.size w w' := by
 have hu39 := Try.underlying39
 have HB := Aside0.mk (Below.refl w.heap.size w)
 have H : (if (a0.size : Int) > 8192 then (some (([] : List (S39)), 4, 0)) else ((fairleadref09_Skip.f k a0 0).bind fun t150 => (fairleadref09_All.l0 k a0 ([] : List (S39)) t150))) = some (r1, r2, r3) := h
 clear h
 by_cases c2 : (a0.size : Int) > 8192
 ·rw [if_pos c2] at H
  have c2b0 : decide (8192 < (a0.size : Int)) = true := decide_eq_true c2
  have c2b1 : decide (8192 < a0.size) = true := decide_eq_true (by omega)
  clear c2
  simp only [Option.some.injEq, Prod.mk.injEq] at H
  obtain ⟨rfl, rfl, rfl⟩ := H
  go_enter Try.func21, Try.ntmps21
  go_wp2
  go_ret3
  exact ⟨_, by first | rfl | (simp [errW_none, errW_some] <;> rfl) | (simp [*, errW_none, errW_some] <;> rfl), by first | exact Kd.R_nil _ _ _ _ _ | exact Kd.N_nil _ _ _ _ _ | exact Kd.V_nil _ _ _ _ _ | exact Kd.Q_nil _ _ _ _ _ | exact Kd.S_nil _ _ _ _ _, by repeat (first | (with_reducible first | exact HB.out | apply below_alloc | apply pw_below_drewN | apply below_drew1) | exact HB.out)⟩
 ·rw [if_neg c2] at H
  have c2b0 : decide (8192 < (a0.size : Int)) = false := decide_eq_false c2
  have c2b1 : decide (8192 < a0.size) = false := decide_eq_false (by omega)
  clear c2
  replace H := Option.bind_eq_some_iff.mp H
  obtain ⟨t150, A30, H⟩ := H
  replace H : (fairleadref09_All.l0 k a0 ([] : List (S39)) t150) = some (r1, r2, r3) := H
  have A3 := Aside0.mk A30
  clear A30
  have H' := Aside0.mk H
  clear H
  go_enter Try.func21, Try.ntmps21
  go_wp2_with (first | ((with_reducible refine gate_callee (f := 35) rfl ?_); refine goesL_ (some 13) rfl rfl Try.func35 (by kernel_rfl) rfl #[.string a0, .int .i64 0] rfl (by (try simp only [List.map_toArray, List.map_cons, List.map_nil]); first | done | rfl | (simp only [List.length_drop, List.length_take]; rfl)) ?_; (with_reducible refine (fairleadref09_Skip.calls k a0 0 t150 _ A3.out).mono ?_); rintro e w' ⟨rfl, ⟨nd, rfl⟩⟩; refine ⟨_, rfl, ?_⟩))
  go_loopg [5, 6] k (fun kq v5 v6 w' => ∃ (x5_1 : List (S39)) (x6_1 : Int), v6 = .int .i64 x6_1 ∧ Aside0 (fairleadref09_All.l0 kq a0 x5_1 x6_1 = some (r1, r2, r3)) ∧ Aside0 (kq ≤ k) ∧ Aside0 (Kd.R k39 39 w' w.heap.size (fun _ => True) v5 x5_1) ∧ Aside0 (Below w.heap.size w w'))
  case atStart => exact ⟨(([] : List (S39))), (t150), (by first | rfl | (simp; done) | (simp [*]; done)), H', ⟨Nat.le_refl _⟩, ⟨by first | exact Kd.R_nil _ _ _ _ _ | exact Kd.N_nil _ _ _ _ _ | exact Kd.V_nil _ _ _ _ _ | exact Kd.Q_nil _ _ _ _ _ | exact Kd.S_nil _ _ _ _ _⟩, ⟨by repeat (first | (with_reducible first | exact HB.out | apply below_alloc | apply pw_below_drewN | apply below_drew1) | exact HB.out)⟩⟩
  case round =>
   clear H'
   try clear c2
   try clear c2b0
   try clear c2b1
   try clear p2
   try clear c3
   obtain ⟨x5_1, x6_1, rfl, HA, HK1, HO_5, HB⟩ := hrel
   cases gk with
   | zero => exact absurd HA.out (by simp [fairleadref09_All.l0])
   | succ k1 =>
    have H := HA.out
    clear HA
    simp only [fairleadref09_All.l0] at H
    by_cases c4 : x6_1 < (a0.size : Int)
    ·rw [if_pos c4] at H
     have c4b0 : decide (x6_1 < (a0.size : Int)) = true := decide_eq_true c4
     clear c4
     replace H := Option.bind_eq_some_iff.mp H
     obtain ⟨⟨t154, t155, t156, t157, t158⟩, A50, H⟩ := H
     replace H : (if t158 = 0 then (if x5_1.length < 3518437208883 then ((fairleadref09_Skip.f k1 a0 (wrap64 (x6_1 + (t156.size : Int)))).bind fun t163 => (fairleadref09_All.l0 k1 a0 (x5_1 ++ [(⟨t154, t155, t156, t157⟩ : S39)]) t163)) else (none)) else (some (([] : List (S39)), t158, x6_1))) = some (r1, r2, r3) := H
     have A5 := Aside0.mk A50
     clear A50
     by_cases c6 : t158 = 0
     ·rw [if_pos c6] at H
      have c6b0 : (t158 == 0) = true := beq_iff_eq.mpr c6
      have c6b1 : (t158 != 0) = false := bne_eq_false_iff_eq.mpr c6
      clear c6
      by_cases c7 : x5_1.length < 3518437208883
      ·rw [if_pos c7] at H
       have LMc7 := Aside0.mk c7
       clear c7
       obtain ⟨y160, hy160⟩ : ∃ y_ : List (S39), y_ = (x5_1 ++ [(⟨t154, t155, t156, t157⟩ : S39)]) := ⟨_, rfl⟩
       replace H : ((fairleadref09_Skip.f k1 a0 (wrap64 (x6_1 + (t156.size : Int)))).bind fun t163 => (fairleadref09_All.l0 k1 a0 y160 t163)) = some (r1, r2, r3) := by first | (rw [hy160]; with_reducible exact H) | (have H2_ := (Option.bind_some _ _).symm.trans H; rw [hy160]; with_reducible exact H2_) | (have H2_ := (Option.bind_some _ _).symm.trans H; with_reducible exact H2_) | with_reducible exact H | (rw [hy160]; exact H) | exact H
       have Ny160 := Aside0.mk hy160
       clear hy160
       replace H := Option.bind_eq_some_iff.mp H
       obtain ⟨t163, A80, H⟩ := H
       replace H : (fairleadref09_All.l0 k1 a0 y160 t163) = some (r1, r2, r3) := H
       have A8 := Aside0.mk A80
       clear A80
       have H' := Aside0.mk H
       clear H
       go_wp2_with (first | ((with_reducible refine gate_callee (f := 36) rfl ?_); refine goesL_ (some 21) rfl rfl Try.func36 (by kernel_rfl) rfl #[.string a0, .int .i64 x6_1] rfl (by (try simp only [List.map_toArray, List.map_cons, List.map_nil]); first | done | rfl | (simp only [List.length_drop, List.length_take]; rfl)) ?_; (with_reducible refine (fairleadref09_One.calls k1 a0 x6_1 t154 t155 t156 t157 t158 _ A5.out).mono ?_); rintro e w9 ⟨rfl, hb⟩; refine ⟨_, rfl, ?_⟩; have n0_ := Aside0.mk (Kd.R_below (by (with_reducible repeat (first | apply Kd.R_alloc | apply Kd.R_drewN | apply Kd.R_drew)); exact HO_5.out) hb); have n1_ := Aside0.mk (below_step (by repeat (first | (with_reducible first | exact HB.out | apply below_alloc | apply pw_below_drewN | apply below_drew1) | exact HB.out)) hb); clear HO_5; clear HB; have HO_5 := n0_; have HB := n1_; clear n0_ n1_; (try clear hb); (try clear hb2); (try clear hk); (try clear hi)) | ((with_reducible refine gate_dst (N := 7) rfl ?_); refine box_event ?hg (N := 7) ?hd (cs := #[.int .i64 0, .int .i64 0, .string (⟨#[]⟩ : ByteArray), .int .u64 0]) (t := 39) ?hr ?_; (case hd => rfl); (case hg => rfl); (case hr => first | (go_simp; done) | (go_simp; rfl)); intro gb159 hg w10 hbox hb; have n0_ := Aside0.mk (Kd.R_below (Kd.R_elderB (by (with_reducible repeat (first | apply Kd.R_alloc | apply Kd.R_drewN | apply Kd.R_drew)); exact HO_5.out) gb159 (Nat.le_of_eq hg.symm)) hb); have n1_ := Aside0.mk (below_step (by repeat (first | (with_reducible first | exact HB.out | apply below_alloc | apply pw_below_drewN | apply below_drew1) | exact HB.out)) hb); have n2_ := Aside0.mk (hbox); have n3_ := Aside0.mk ((by rw [hg]; exact (below_size (by repeat (first | (with_reducible first | exact HB.out | apply below_alloc | apply pw_below_drewN | apply below_drew1) | exact HB.out))) : w.heap.size ≤ gb159)); have n4_ := Aside0.mk ((by rw [hg]; exact (below_size (by repeat (first | (with_reducible first | exact HB.out | apply below_alloc | apply pw_below_drewN | apply below_drew1) | exact HB.out))) : w.heap.size ≤ gb159)); clear HO_5; clear HB; have HO_5 := n0_; have HB := n1_; have BK159 := n2_; have GW159 := n3_; have GE159 := n4_; clear n0_ n1_ n2_ n3_ n4_; clear hb hbox hg; obtain ⟨hcz11_0, hcz11_1, hcz11_2, hcz11_3⟩ := Mine.cells4 BK159.out; have hfz11_0 := blk_frozen BK159.out) | ((with_reducible refine gate_builtin (b := .append) (xs := #[.tmp 28, .tmp 30]) rfl ?_); at_builtin; refine Kd.R_append k39 (w0 := w) w.heap.size rfl (.tmp 28) (.tmp 30) 34 39 (.agg #[(.int .i64 0), (.int .i64 0), (.string ⟨#[]⟩), (.int .u64 0)]) 40 rfl Try.underlying34 info39 rfl (by decide) (by omega) u5 x5_1 (⟨t154, t155, t156, t157⟩ : S39) [.int .i64 t154, .int .i64 t155, .string t156, .int .u64 t157] (fun k_ => k_ ≠ gb159) (fun _ => False) rfl (by first | (go_simp; done) | (go_simp; rfl)) ?aP (fun _ hk => hk.elim) ?aF ?aO ?aB ?aS ?aL ?_; (case aP => exact k39_mkM _ _ _ (⟨t154, t155, t156, t157⟩ : S39)); (case aB => exact (by repeat (first | (with_reducible first | exact HB.out | apply below_alloc | apply pw_below_drewN | apply below_drew1 | refine below_set ?_ GE159.out) | exact HB.out))); (case aF => exact (fun k_ hk => Kd.freshB (g := gb159) (o := .cells #[.int .i64 t154, .int .i64 t155, .string t156, .int .u64 t157] 39 (0, 0)) (by (with_reducible repeat (first | refine blk_drewN ?_ _ | refine blk_drew ?_ | refine blk_alloc ?_ _)); refine blk_put (cs := #[.int .i64 t154, .int .i64 t155, .string t156, .int .u64 0]) ?_ 3 _ rfl; (with_reducible repeat (first | refine blk_drewN ?_ _ | refine blk_drew ?_ | refine blk_alloc ?_ _)); refine blk_put (cs := #[.int .i64 t154, .int .i64 t155, .string (⟨#[]⟩ : ByteArray), .int .u64 0]) ?_ 2 _ rfl; (with_reducible repeat (first | refine blk_drewN ?_ _ | refine blk_drew ?_ | refine blk_alloc ?_ _)); refine blk_put (cs := #[.int .i64 t154, .int .i64 0, .string (⟨#[]⟩ : ByteArray), .int .u64 0]) ?_ 1 _ rfl; (with_reducible repeat (first | refine blk_drewN ?_ _ | refine blk_drew ?_ | refine blk_alloc ?_ _)); refine blk_put (cs := #[.int .i64 0, .int .i64 0, .string (⟨#[]⟩ : ByteArray), .int .u64 0]) ?_ 0 _ rfl; (with_reducible repeat (first | refine blk_drewN ?_ _ | refine blk_drew ?_ | refine blk_alloc ?_ _)); exact BK159.out) k_ hk)); (case aO => exact (by (with_reducible repeat (first | apply Kd.R_alloc | apply Kd.R_drewN | apply Kd.R_drew)); exact Kd.R_mono (Kd.R_far (p := ⟨gb159, 3, none⟩) (Kd.R_far (p := ⟨gb159, 2, none⟩) (Kd.R_far (p := ⟨gb159, 1, none⟩) (Kd.R_far (p := ⟨gb159, 0, none⟩) (Kd.R_mono HO_5.out (fun k_ hk => (⟨hk, hk.2⟩ : _ ∧ k_ ≠ gb159))) (fun _ hk => by first | exact hk.2 | exact hk | exact trivial) (.int .i64 t154)) (fun _ hk => by first | exact hk.2 | exact hk | exact trivial) (.int .i64 t155)) (fun _ hk => by first | exact hk.2 | exact hk | exact trivial) (.string t156)) (fun _ hk => by first | exact hk.2 | exact hk | exact trivial) (.int .u64 t157)) (fun _ hk => hk.1.2))); (case aS => exact (below_size (by repeat (first | (with_reducible first | exact HB.out | apply below_alloc | apply pw_below_drewN | apply below_drew1 | refine below_set ?_ GE159.out) | exact HB.out)))); (case aL => have := LMc7.out; omega); intro v161 w12 ho hb hg hat; rw [← Ny160.out] at ho; have n0_ := Aside0.mk (blk_grown (g := gb159) (o := .cells #[.int .i64 t154, .int .i64 t155, .string t156, .int .u64 t157] 39 (0, 0)) (by (with_reducible repeat (first | refine blk_drewN ?_ _ | refine blk_drew ?_ | refine blk_alloc ?_ _)); refine blk_put (cs := #[.int .i64 t154, .int .i64 t155, .string t156, .int .u64 0]) ?_ 3 _ rfl; (with_reducible repeat (first | refine blk_drewN ?_ _ | refine blk_drew ?_ | refine blk_alloc ?_ _)); refine blk_put (cs := #[.int .i64 t154, .int .i64 t155, .string (⟨#[]⟩ : ByteArray), .int .u64 0]) ?_ 2 _ rfl; (with_reducible repeat (first | refine blk_drewN ?_ _ | refine blk_drew ?_ | refine blk_alloc ?_ _)); refine blk_put (cs := #[.int .i64 t154, .int .i64 0, .string (⟨#[]⟩ : ByteArray), .int .u64 0]) ?_ 1 _ rfl; (with_reducible repeat (first | refine blk_drewN ?_ _ | refine blk_drew ?_ | refine blk_alloc ?_ _)); refine blk_put (cs := #[.int .i64 0, .int .i64 0, .string (⟨#[]⟩ : ByteArray), .int .u64 0]) ?_ 0 _ rfl; (with_reducible repeat (first | refine blk_drewN ?_ _ | refine blk_drew ?_ | refine blk_alloc ?_ _)); exact BK159.out) hg (Kd.R_away HO_5.out (fun _ hk => by first | exact hk.2 | exact hk | exact trivial))); have n1_ := Aside0.mk (hb); have n2_ := Aside0.mk (ho); clear BK159; clear HB; clear HO_5; have BK159 := n0_; have HB := n1_; have HO162 := n2_; clear n0_ n1_ n2_; clear ho hb hg hat; obtain ⟨hcz13_0, hcz13_1, hcz13_2, hcz13_3⟩ := Mine.cells4 BK159.out; have hfz13_0 := blk_frozen BK159.out) | ((with_reducible refine gate_callee (f := 35) rfl ?_); refine goesL_ (some 38) rfl rfl Try.func35 (by kernel_rfl) rfl #[.string a0, .int .i64 (wrap64 (x6_1 + (t156.size : Int)))] rfl (by (try simp only [List.map_toArray, List.map_cons, List.map_nil]); first | done | rfl | (simp only [List.length_drop, List.length_take]; rfl)) ?_; (with_reducible refine (fairleadref09_Skip.calls k1 a0 (wrap64 (x6_1 + (t156.size : Int))) t163 _ A8.out).mono ?_); rintro e w' ⟨rfl, ⟨nd, rfl⟩⟩; refine ⟨_, rfl, ?_⟩))
       go_roundg k1
       case measure => have := HK1.out; omega
       case rel => exact ⟨(y160), (t163), (by first | rfl | (simp; done) | (simp [*]; done)), H', ⟨by have := HK1.out; omega⟩, ⟨by (with_reducible repeat (first | apply Kd.R_alloc | apply Kd.R_drewN | apply Kd.R_drew)); exact Kd.R_mono HO162.out (fun _ hk => trivial)⟩, ⟨by repeat (first | (with_reducible first | exact HB.out | apply below_alloc | apply pw_below_drewN | apply below_drew1 | refine below_set ?_ GE159.out) | exact HB.out)⟩⟩
      ·rw [if_neg c7] at H
       exact absurd H (by simp)
     ·rw [if_neg c6] at H
      have c6b0 : (t158 == 0) = false := beq_eq_false_iff_ne.mpr c6
      have c6b1 : (t158 != 0) = true := bne_iff_ne.mpr c6
      simp only [Option.some.injEq, Prod.mk.injEq] at H
      obtain ⟨rfl, rfl, rfl⟩ := H
      go_wp2_with (first | ((with_reducible refine gate_callee (f := 36) rfl ?_); refine goesL_ (some 21) rfl rfl Try.func36 (by kernel_rfl) rfl #[.string a0, .int .i64 x6_1] rfl (by (try simp only [List.map_toArray, List.map_cons, List.map_nil]); first | done | rfl | (simp only [List.length_drop, List.length_take]; rfl)) ?_; (with_reducible refine (fairleadref09_One.calls k1 a0 x6_1 t154 t155 t156 t157 t158 _ A5.out).mono ?_); rintro e w14 ⟨rfl, hb⟩; refine ⟨_, rfl, ?_⟩; have n0_ := Aside0.mk (Kd.R_below (by (with_reducible repeat (first | apply Kd.R_alloc | apply Kd.R_drewN | apply Kd.R_drew)); exact HO_5.out) hb); have n1_ := Aside0.mk (below_step (by repeat (first | (with_reducible first | exact HB.out | apply below_alloc | apply pw_below_drewN | apply below_drew1) | exact HB.out)) hb); clear HO_5; clear HB; have HO_5 := n0_; have HB := n1_; clear n0_ n1_; (try clear hb); (try clear hb2); (try clear hk); (try clear hi)) | ((with_reducible refine gate_dst (N := 7) rfl ?_); refine box_event ?hg (N := 7) ?hd (cs := #[.int .i64 0, .int .i64 0, .string (⟨#[]⟩ : ByteArray), .int .u64 0]) (t := 39) ?hr ?_; (case hd => rfl); (case hg => rfl); (case hr => first | (go_simp; done) | (go_simp; rfl)); intro gb159 hg w15 hbox hb; have n0_ := Aside0.mk (Kd.R_below (Kd.R_elderB (by (with_reducible repeat (first | apply Kd.R_alloc | apply Kd.R_drewN | apply Kd.R_drew)); exact HO_5.out) gb159 (Nat.le_of_eq hg.symm)) hb); have n1_ := Aside0.mk (below_step (by repeat (first | (with_reducible first | exact HB.out | apply below_alloc | apply pw_below_drewN | apply below_drew1) | exact HB.out)) hb); have n2_ := Aside0.mk (hbox); have n3_ := Aside0.mk ((by rw [hg]; exact (below_size (by repeat (first | (with_reducible first | exact HB.out | apply below_alloc | apply pw_below_drewN | apply below_drew1) | exact HB.out))) : w.heap.size ≤ gb159)); have n4_ := Aside0.mk ((by rw [hg]; exact (below_size (by repeat (first | (with_reducible first | exact HB.out | apply below_alloc | apply pw_below_drewN | apply below_drew1) | exact HB.out))) : w.heap.size ≤ gb159)); clear HO_5; clear HB; have HO_5 := n0_; have HB := n1_; have BK159 := n2_; have GW159 := n3_; have GE159 := n4_; clear n0_ n1_ n2_ n3_ n4_; clear hb hbox hg; obtain ⟨hcz16_0, hcz16_1, hcz16_2, hcz16_3⟩ := Mine.cells4 BK159.out; have hfz16_0 := blk_frozen BK159.out))
      go_ret3
      exact ⟨_, by first | rfl | (simp [errW_none, errW_some] <;> rfl) | (simp [*, errW_none, errW_some] <;> rfl), by first | exact Kd.R_nil _ _ _ _ _ | exact Kd.N_nil _ _ _ _ _ | exact Kd.V_nil _ _ _ _ _ | exact Kd.Q_nil _ _ _ _ _ | exact Kd.S_nil _ _ _ _ _, by repeat (first | (with_reducible first | exact HB.out | apply below_alloc | apply pw_below_drewN | apply below_drew1 | refine below_set ?_ GE159.out) | exact HB.out)⟩
    ·rw [if_neg c4] at H
     have c4b0 : decide (x6_1 < (a0.size : Int)) = false := decide_eq_false c4
     clear c4
     by_cases c17 : x5_1.length < 3518437208883
     ·rw [if_pos c17] at H
      have LMc17 := Aside0.mk c17
      clear c17
      obtain ⟨y151, hy151⟩ : ∃ y_ : List (S39), y_ = (x5_1 ++ [(⟨4, (a0.size : Int), (⟨#[]⟩ : ByteArray), 0⟩ : S39)]) := ⟨_, rfl⟩
      replace H : (some (y151, 0, (-1))) = some (r1, r2, r3) := by first | (rw [hy151]; with_reducible exact H) | (have H2_ := (Option.bind_some _ _).symm.trans H; rw [hy151]; with_reducible exact H2_) | (have H2_ := (Option.bind_some _ _).symm.trans H; with_reducible exact H2_) | with_reducible exact H | (rw [hy151]; exact H) | exact H
      have Ny151 := Aside0.mk hy151
      clear hy151
      simp only [Option.some.injEq, Prod.mk.injEq] at H
      obtain ⟨rfl, rfl, rfl⟩ := H
      go_wp2_with (first | ((with_reducible refine gate_builtin (b := .append) (xs := #[.tmp 39, .tmp 43]) rfl ?_); at_builtin; refine Kd.R_append k39 (w0 := w) w.heap.size rfl (.tmp 39) (.tmp 43) 34 39 (.agg #[(.int .i64 0), (.int .i64 0), (.string ⟨#[]⟩), (.int .u64 0)]) 40 rfl Try.underlying34 info39 rfl (by decide) (by omega) u5 x5_1 (⟨4, (a0.size : Int), (⟨#[]⟩ : ByteArray), 0⟩ : S39) [.int .i64 4, .int .i64 (a0.size : Int), .string (⟨#[]⟩ : ByteArray), .int .u64 0] (fun _ => True) (fun _ => False) rfl rfl ?aP (fun _ hk => hk.elim) ?aF ?aO ?aB ?aS ?aL ?_; (case aP => exact k39_mkM _ _ _ (⟨4, (a0.size : Int), (⟨#[]⟩ : ByteArray), 0⟩ : S39)); (case aB => exact (by repeat (first | (with_reducible first | exact HB.out | apply below_alloc | apply pw_below_drewN | apply below_drew1) | exact HB.out))); (case aF => exact (fun _ _ => trivial)); (case aO => exact (by (with_reducible repeat (first | apply Kd.R_alloc | apply Kd.R_drewN | apply Kd.R_drew)); exact HO_5.out)); (case aS => exact (below_size (by repeat (first | (with_reducible first | exact HB.out | apply below_alloc | apply pw_below_drewN | apply below_drew1) | exact HB.out)))); (case aL => have := LMc17.out; omega); intro v152 w18 ho hb hg hat; rw [← Ny151.out] at ho; have n0_ := Aside0.mk (hb); have n1_ := Aside0.mk (ho); clear HB; clear HO_5; have HB := n0_; have HO153 := n1_; clear n0_ n1_; clear ho hb hg hat))
      go_ret3
      exact ⟨_, by first | rfl | (simp [errW_none, errW_some] <;> rfl) | (simp [*, errW_none, errW_some] <;> rfl), by (with_reducible repeat (first | apply Kd.R_alloc | apply Kd.R_drewN | apply Kd.R_drew)); exact HO153.out, by repeat (first | (with_reducible first | exact HB.out | apply below_alloc | apply pw_below_drewN | apply below_drew1) | exact HB.out)⟩
     ·rw [if_neg c17] at H
      exact absurd H (by simp)
/-- A state of type 60 at block g of W; what its slices lead to came in by w0. -/
def IsS60 (w0 W : World) (g : Nat) (f0 : List (S39)) (f1 : Int) (f2 : Int) (f3 : Int) : Prop := ∃ A0 c0, W.heap[g]? = some (.cells #[.slice A0 f0.length c0, .int .i64 f1, .int .i64 f2, .int .i64 f3] 60 (0, 0)) ∧ w0.heap.size ≤ g ∧ Kd.C k39 w0 A0 f0.length f0
theorem IsS60.grown {w0 W : World} {g : Nat} {f0 : List (S39)} {f1 : Int} {f2 : Int} {f3 : Int} {W1 : World} {row : Option Nat} (h : IsS60 w0 W g f0 f1 f2 f3) (hw : W.grownBy W1 row) (hne : some g ≠ row) : IsS60 w0 W1 g f0 f1 f2 f3 := by
 obtain ⟨A0, c0, hb, hg, hr0⟩ := h
 exact ⟨A0, c0, blk_grown hb hw hne, hg, hr0⟩
theorem IsS60.kept {w0 W : World} {g : Nat} {f0 : List (S39)} {f1 : Int} {f2 : Int} {f3 : Int} {W1 : World} {S : Nat → Prop} (h : IsS60 w0 W g f0 f1 f2 f3) (hk : Kept W W1 S) (hne : ¬ S g) : IsS60 w0 W1 g f0 f1 f2 f3 := by
 obtain ⟨A0, c0, hb, hg, hr0⟩ := h
 exact ⟨A0, c0, blk_kept hb hk hne, hg, hr0⟩
theorem IsS60.below {w0 W : World} {g : Nat} {f0 : List (S39)} {f1 : Int} {f2 : Int} {f3 : Int} {W1 : World} (h : IsS60 w0 W g f0 f1 f2 f3) (hw : Below W.heap.size W W1) : IsS60 w0 W1 g f0 f1 f2 f3 := h.grown (grown_of_below hw none) (by simp)
theorem IsS60.alloc {w0 W : World} {g : Nat} {f0 : List (S39)} {f1 : Int} {f2 : Int} {f3 : Int} (h : IsS60 w0 W g f0 f1 f2 f3) (o : Obj) : IsS60 w0 (W.alloc o) g f0 f1 f2 f3 := h.below (below_alloc (Below.refl _ _) o)
theorem IsS60.drewN {w0 W : World} {g : Nat} {f0 : List (S39)} {f1 : Int} {f2 : Int} {f3 : Int} (h : IsS60 w0 W g f0 f1 f2 f3) (m : Nat) : IsS60 w0 (W.drewN m) g f0 f1 f2 f3 := h
theorem IsS60.drew {w0 W : World} {g : Nat} {f0 : List (S39)} {f1 : Int} {f2 : Int} {f3 : Int} (h : IsS60 w0 W g f0 f1 f2 f3) : IsS60 w0 W.drew g f0 f1 f2 f3 := h
theorem IsS60.at_ {w0 W : World} {g : Nat} {f0 : List (S39)} {f1 : Int} {f2 : Int} {f3 : Int} {w' : World} {m : Nat} (hq : W.drewN m = w') (h : IsS60 w0 W g f0 f1 f2 f3) : IsS60 w0 w' g f0 f1 f2 f3 := by subst hq; exact IsS60.drewN h m
theorem IsS60.apart {w0 W : World} {g : Nat} {f0 : List (S39)} {f1 : Int} {f2 : Int} {f3 : Int} {α : Type} {d : Kd α} {e : Nat} {base : Nat} {ok : Nat → Prop} {v : Value} {xs : List α} (h : IsS60 w0 W g f0 f1 f2 f3) (ho : d.R e W base ok v xs) (ht : ∀ q, q ∈ e :: d.E → q ≠ 60) : d.R e W base (fun k => ok k ∧ k ≠ g) v xs := by
 obtain ⟨A0, c0, hb, hg, hr0⟩ := h
 exact Kd.R_types ho hb ht
theorem IsS60.own_ne {w0 W : World} {g : Nat} {f0 : List (S39)} {f1 : Int} {f2 : Int} {f3 : Int} {α : Type} {d : Kd α} {e : Nat} {base : Nat} {ok : Nat → Prop} {v : Value} {xs : List α} (h : IsS60 w0 W g f0 f1 f2 f3) (ho : d.R e W base ok v xs) (ht : e ≠ 60) : some g ≠ v.ownBlock := by
 obtain ⟨A0, c0, hb, hg, hr0⟩ := h
 exact Kd.R_ne ho hb ht
theorem IsS60.lt {w0 W : World} {g : Nat} {f0 : List (S39)} {f1 : Int} {f2 : Int} {f3 : Int} (h : IsS60 w0 W g f0 f1 f2 f3) : g < W.heap.size := by
 obtain ⟨A0, c0, hb, hg, hr0⟩ := h
 exact blk_lt hb
theorem IsS60.ge {w0 W : World} {g : Nat} {f0 : List (S39)} {f1 : Int} {f2 : Int} {f3 : Int} (h : IsS60 w0 W g f0 f1 f2 f3) : w0.heap.size ≤ g := by
 obtain ⟨A0, c0, hb, hg, hr0⟩ := h
 exact hg
theorem IsS60.far {w0 W : World} {g : Nat} {f0 : List (S39)} {f1 : Int} {f2 : Int} {f3 : Int} {p : Addr} (h : IsS60 w0 W g f0 f1 f2 f3) (hne : g ≠ p.block) (u : Value) : IsS60 w0 (W.setCell p u) g f0 f1 f2 f3 := by
 obtain ⟨A0, c0, hb, hg, hr0⟩ := h
 exact ⟨A0, c0, blk_far hb hne u, hg, hr0⟩
theorem cellS60_0 {W : World} {g : Nat} {A0 : Option Addr} {c0 : Nat} {f0 : List (S39)} {f1 : Int} {f2 : Int} {f3 : Int} (h : W.heap[g]? = some (.cells #[.slice A0 f0.length c0, .int .i64 f1, .int .i64 f2, .int .i64 f3] 60 (0, 0))) : W.cell? ⟨g, 0, none⟩ = some (.slice A0 f0.length c0) := (blk_cell h 0).trans rfl
theorem cellS60_1 {W : World} {g : Nat} {A0 : Option Addr} {c0 : Nat} {f0 : List (S39)} {f1 : Int} {f2 : Int} {f3 : Int} (h : W.heap[g]? = some (.cells #[.slice A0 f0.length c0, .int .i64 f1, .int .i64 f2, .int .i64 f3] 60 (0, 0))) : W.cell? ⟨g, 1, none⟩ = some (.int .i64 f1) := (blk_cell h 1).trans rfl
theorem IsS60.set_1 {w0 W : World} {g : Nat} {f0 : List (S39)} {f1 : Int} {f2 : Int} {f3 : Int} (h : IsS60 w0 W g f0 f1 f2 f3) (x : Int) : IsS60 w0 (W.setCell ⟨g, 1, none⟩ (.int .i64 x)) g f0 x f2 f3 := by
 obtain ⟨A0, c0, hb, hg, hr0⟩ := h
 exact ⟨A0, c0, by simpa using blk_set hb 1 (.int .i64 x), hg, hr0⟩
theorem cellS60_2 {W : World} {g : Nat} {A0 : Option Addr} {c0 : Nat} {f0 : List (S39)} {f1 : Int} {f2 : Int} {f3 : Int} (h : W.heap[g]? = some (.cells #[.slice A0 f0.length c0, .int .i64 f1, .int .i64 f2, .int .i64 f3] 60 (0, 0))) : W.cell? ⟨g, 2, none⟩ = some (.int .i64 f2) := (blk_cell h 2).trans rfl
theorem IsS60.set_2 {w0 W : World} {g : Nat} {f0 : List (S39)} {f1 : Int} {f2 : Int} {f3 : Int} (h : IsS60 w0 W g f0 f1 f2 f3) (x : Int) : IsS60 w0 (W.setCell ⟨g, 2, none⟩ (.int .i64 x)) g f0 f1 x f3 := by
 obtain ⟨A0, c0, hb, hg, hr0⟩ := h
 exact ⟨A0, c0, by simpa using blk_set hb 2 (.int .i64 x), hg, hr0⟩
theorem cellS60_3 {W : World} {g : Nat} {A0 : Option Addr} {c0 : Nat} {f0 : List (S39)} {f1 : Int} {f2 : Int} {f3 : Int} (h : W.heap[g]? = some (.cells #[.slice A0 f0.length c0, .int .i64 f1, .int .i64 f2, .int .i64 f3] 60 (0, 0))) : W.cell? ⟨g, 3, none⟩ = some (.int .i64 f3) := (blk_cell h 3).trans rfl
theorem IsS60.set_3 {w0 W : World} {g : Nat} {f0 : List (S39)} {f1 : Int} {f2 : Int} {f3 : Int} (h : IsS60 w0 W g f0 f1 f2 f3) (x : Int) : IsS60 w0 (W.setCell ⟨g, 3, none⟩ (.int .i64 x)) g f0 f1 f2 x := by
 obtain ⟨A0, c0, hb, hg, hr0⟩ := h
 exact ⟨A0, c0, by simpa using blk_set hb 3 (.int .i64 x), hg, hr0⟩
theorem IsS60.new (w0 W : World) (A0 : Option Addr) (c0 : Nat) (f0 : List (S39)) (f1 : Int) (f2 : Int) (f3 : Int) (hB : Below w0.heap.size w0 W) (hr0 : Kd.C k39 w0 A0 f0.length f0) : IsS60 w0 (W.alloc (.cells #[.slice A0 f0.length c0, .int .i64 f1, .int .i64 f2, .int .i64 f3] 60)) W.heap.size f0 f1 f2 f3 := ⟨A0, c0, by simpa using heap_alloc_new W _, hB.size, hr0⟩
def fairleadref10_Place_is.f (s0_0 : List (S39)) (s0_1 : Int) (s0_2 : Int) (s0_3 : Int) (a1 : Int) (a2 : ByteArray) : Option (Bool × Int × Int × Int) := if 0 ≤ s0_1 then (if s0_1 < (s0_0.length : Int) then (if ((rd_T39 s0_0 s0_1).f0) = a1 then (some ((((rd_T39 s0_0 s0_1).f2).toList == a2.toList), s0_1, s0_2, s0_3)) else (some (false, s0_1, s0_2, s0_3))) else (none)) else (none)
set_option maxHeartbeats 8000000 in
set_option maxRecDepth 100000 in
theorem fairleadref10_Place_is.calls (g : Nat) (s0_0 : List (S39)) (s0_1 : Int) (s0_2 : Int) (s0_3 : Int) (a1 : Int) (a2 : ByteArray) (r1 : Bool) (r2 : Int) (r3 : Int) (r4 : Int) (w0 w : World) (hI : IsS60 w0 w g s0_0 s0_1 s0_2 s0_3) (hB : Below w0.heap.size w0 w) (h : fairleadref10_Place_is.f s0_0 s0_1 s0_2 s0_3 a1 a2 = some (r1, r2, r3, r4)) :
  Calls Try.prog 22 #[.pointer (some ⟨g, 0, none⟩), .int .i64 a1, .string a2] w fun e w' => e = .returned (.bool r1) ∧ IsS60 w0 w' g s0_0 r2 r3 r4 ∧ Below w0.heap.size w0 w' ∧ KeepBut w w' g none := by
 have HI0 := Aside0.mk hI
 have HK := Aside0.mk (KeepBut.refl w g none)
 have HL := Aside0.mk hB.size
 clear hI
 have HW0 := Aside0.mk hB.size
 have HB := Aside0.mk hB
 clear hB
 have H : (if 0 ≤ s0_1 then (if s0_1 < (s0_0.length : Int) then (if ((rd_T39 s0_0 s0_1).f0) = a1 then (some ((((rd_T39 s0_0 s0_1).f2).toList == a2.toList), s0_1, s0_2, s0_3)) else (some (false, s0_1, s0_2, s0_3))) else (none)) else (none)) = some (r1, r2, r3, r4) := h
 clear h
 by_cases c4 : 0 ≤ s0_1
 ·rw [if_pos c4] at H
  have c4b0 : decide (0 ≤ s0_1) = true := decide_eq_true c4
  clear c4
  by_cases c5 : s0_1 < (s0_0.length : Int)
  ·rw [if_pos c5] at H
   have c5b0 : decide (s0_1 < (s0_0.length : Int)) = true := decide_eq_true c5
   clear c5
   by_cases c6 : ((rd_T39 s0_0 s0_1).f0) = a1
   ·rw [if_pos c6] at H
    have c6b0 : (((rd_T39 s0_0 s0_1).f0) == a1) = true := beq_iff_eq.mpr c6
    have c6b1 : (((rd_T39 s0_0 s0_1).f0) != a1) = false := bne_eq_false_iff_eq.mpr c6
    clear c6
    simp only [Option.some.injEq, Prod.mk.injEq] at H
    obtain ⟨rfl, rfl, rfl, rfl⟩ := H
    obtain ⟨ASz7_0, cSz7_0, HGz7, hgz7, HSz7_0⟩ := HI0.out
    have hcz7_0 := cellS60_0 HGz7
    have hcz7_1 := cellS60_1 HGz7
    have hcz7_2 := cellS60_2 HGz7
    have hcz7_3 := cellS60_3 HGz7
    have hfz7_1 := blk_frozen HGz7 1
    have hfz7_2 := blk_frozen HGz7 2
    have hfz7_3 := blk_frozen HGz7 3
    clear HGz7 hgz7
    have p164 : 0 ≤ (s0_1 : Int) := of_decide_eq_true (by first | (with_reducible assumption) | assumption)
    have q164 : s0_1 < (s0_0.length : Int) := of_decide_eq_true (by first | (with_reducible assumption) | assumption)
    obtain ⟨ad164, e164, hx164_0, hx164_1, hx164_2, hx164_3⟩ := at_T39 HSz7_0 s0_1 p164 q164
    cases e164
    replace hx164_0 := pw_cell_below HB.out hx164_0
    replace hx164_1 := pw_cell_below HB.out hx164_1
    replace hx164_2 := pw_cell_below HB.out hx164_2
    replace hx164_3 := pw_cell_below HB.out hx164_3
    replace p164 := eq_true p164
    replace q164 := eq_true q164
    have p165 : 0 ≤ (s0_1 : Int) := of_decide_eq_true (by first | (with_reducible assumption) | assumption)
    have q165 : s0_1 < (s0_0.length : Int) := of_decide_eq_true (by first | (with_reducible assumption) | assumption)
    obtain ⟨ad165, e165, hx165_0, hx165_1, hx165_2, hx165_3⟩ := at_T39 HSz7_0 s0_1 p165 q165
    obtain rfl : ad164 = ad165 := (by injection e165)
    replace hx165_0 := pw_cell_below HB.out hx165_0
    replace hx165_1 := pw_cell_below HB.out hx165_1
    replace hx165_2 := pw_cell_below HB.out hx165_2
    replace hx165_3 := pw_cell_below HB.out hx165_3
    replace p165 := eq_true p165
    replace q165 := eq_true q165
    go_enter Try.func22, Try.ntmps22
    go_wp2
    repeat (go_quiet (fail); try go_wp2)
    go_ret
    exact ⟨by first | rfl | (simp [errW_none, errW_some] <;> rfl) | (simp [*, errW_none, errW_some] <;> rfl), by repeat (first | (with_reducible first | exact HI0.out | apply IsS60.alloc | apply IsS60.drewN | apply IsS60.drew | apply IsS60.set_1 | apply IsS60.set_2 | apply IsS60.set_3) | exact HI0.out), by repeat (first | (with_reducible first | exact HB.out | apply below_alloc | apply pw_below_drewN | apply below_drew1 | refine below_set ?_ (IsS60.ge HI0.out)) | exact HB.out), by repeat (first | (with_reducible first | exact HK.out | apply KeepBut.set_ | apply keep_drewN | apply keep_drew | apply keep_alloc) | exact HK.out)⟩
   ·rw [if_neg c6] at H
    have c6b0 : (((rd_T39 s0_0 s0_1).f0) == a1) = false := beq_eq_false_iff_ne.mpr c6
    have c6b1 : (((rd_T39 s0_0 s0_1).f0) != a1) = true := bne_iff_ne.mpr c6
    simp only [Option.some.injEq, Prod.mk.injEq] at H
    obtain ⟨rfl, rfl, rfl, rfl⟩ := H
    obtain ⟨ASz8_0, cSz8_0, HGz8, hgz8, HSz8_0⟩ := HI0.out
    have hcz8_0 := cellS60_0 HGz8
    have hcz8_1 := cellS60_1 HGz8
    have hcz8_2 := cellS60_2 HGz8
    have hcz8_3 := cellS60_3 HGz8
    have hfz8_1 := blk_frozen HGz8 1
    have hfz8_2 := blk_frozen HGz8 2
    have hfz8_3 := blk_frozen HGz8 3
    clear HGz8 hgz8
    have p164 : 0 ≤ (s0_1 : Int) := of_decide_eq_true (by first | (with_reducible assumption) | assumption)
    have q164 : s0_1 < (s0_0.length : Int) := of_decide_eq_true (by first | (with_reducible assumption) | assumption)
    obtain ⟨ad164, e164, hx164_0, hx164_1, hx164_2, hx164_3⟩ := at_T39 HSz8_0 s0_1 p164 q164
    cases e164
    replace hx164_0 := pw_cell_below HB.out hx164_0
    replace hx164_1 := pw_cell_below HB.out hx164_1
    replace hx164_2 := pw_cell_below HB.out hx164_2
    replace hx164_3 := pw_cell_below HB.out hx164_3
    replace p164 := eq_true p164
    replace q164 := eq_true q164
    go_enter Try.func22, Try.ntmps22
    go_wp2
    repeat (go_quiet (fail); try go_wp2)
    go_ret
    exact ⟨by first | rfl | (simp [errW_none, errW_some] <;> rfl) | (simp [*, errW_none, errW_some] <;> rfl), by repeat (first | (with_reducible first | exact HI0.out | apply IsS60.alloc | apply IsS60.drewN | apply IsS60.drew | apply IsS60.set_1 | apply IsS60.set_2 | apply IsS60.set_3) | exact HI0.out), by repeat (first | (with_reducible first | exact HB.out | apply below_alloc | apply pw_below_drewN | apply below_drew1 | refine below_set ?_ (IsS60.ge HI0.out)) | exact HB.out), by repeat (first | (with_reducible first | exact HK.out | apply KeepBut.set_ | apply keep_drewN | apply keep_drew | apply keep_alloc) | exact HK.out)⟩
  ·rw [if_neg c5] at H
   exact absurd H (by simp)
 ·rw [if_neg c4] at H
  exact absurd H (by simp)
-- HAND rounds=False making=True
-- STATE
def fairleadref10_Place_fail.f (s0_0 : List (S39)) (s0_1 s0_2 s0_3 a1 : Int) : Option (Int × Int × Int) := if s0_2 = 0 then (if 0 ≤ s0_1 ∧ s0_1 < (s0_0.length : Int) then some (s0_1, a1, (rd_T39 s0_0 s0_1).f1) else none) else some (s0_1, s0_2, s0_3)
set_option maxHeartbeats 8000000 in
set_option maxRecDepth 100000 in
theorem fairleadref10_Place_fail.calls (g : Nat) (s0_0 : List (S39)) (s0_1 : Int) (s0_2 : Int) (s0_3 : Int) (a1 : Int) (r1 : Int) (r2 : Int) (r3 : Int) (w0 w : World) (hI : IsS60 w0 w g s0_0 s0_1 s0_2 s0_3) (hB : Below w0.heap.size w0 w) (h : fairleadref10_Place_fail.f s0_0 s0_1 s0_2 s0_3 a1 = some (r1, r2, r3)) :
  Calls Try.prog 23 #[.pointer (some ⟨g, 0, none⟩), .int .i64 a1] w fun e w' => e = .returned (.tuple #[]) ∧ IsS60 w0 w' g s0_0 r1 r2 r3 ∧ Below w0.heap.size w0 w' ∧ KeepBut w w' g none := by
 have hu39_ := Try.underlying39
 have hu60_ := Try.underlying60
 have HI := Aside0.mk hI
 have HB := Aside0.mk hB
 clear hI hB
 unfold fairleadref10_Place_fail.f at h
 obtain ⟨A0, c0, HG, hg, HC0⟩ := HI.out
 have HC := Aside0.mk HC0
 have HGE := Aside0.mk hg
 have z0 := cellS60_0 HG
 have z1 := cellS60_1 HG
 have z2 := cellS60_2 HG
 have z3 := cellS60_3 HG
 have f2 := blk_frozen HG 2
 have f3 := blk_frozen HG 3
 have HG := Aside0.mk HG
 clear HC0 hg
 by_cases hz : s0_2 = 0
 ·rw [if_pos hz] at h
  by_cases hn : 0 ≤ s0_1 ∧ s0_1 < (s0_0.length : Int)
  ·rw [if_pos hn] at h
   simp only [Option.some.injEq, Prod.mk.injEq] at h
   obtain ⟨rfl, rfl, rfl⟩ := h
   obtain ⟨ad, rfl, x0, x1, x2, x3⟩ := at_T39 HC.out s0_1 hn.1 hn.2
   have hne0 : ad.block < w0.heap.size := by have := World.block_lt_of_cell? w0 _ x0; rwa [add_block] at this
   have hne : g ≠ ad.block := by have := HGE.out; omega
   have hne' : ad.block ≠ g := Ne.symm hne
   have zz := beq_iff_eq.mpr hz
   have p0 := decide_eq_true hn.1
   have p1 := decide_eq_true hn.2
   have e0 := eq_true hn.1
   have e1 := eq_true hn.2
   clear x0 x2 x3 hz hn hne0
   go_enter Try.func23, Try.ntmps23
   go_wp2
   have HG2 := blk_put (cs' := #[.slice (some ad) s0_0.length c0, .int .i64 s0_1, .int .i64 a1, .int .i64 s0_3]) HG.out 2 (.int .i64 a1) rfl
   have HG3 := Aside0.mk (blk_drew HG2)
   have HB3 := Aside0.mk (below_drew1 (below_set (j := 2) (v := .int .i64 a1) HB.out HGE.out))
   have y2 := (blk_cell HG3.out 3).trans (show _ = some (.int .i64 s0_3 : Value) from rfl)
   have y3 := blk_frozen HG3.out 3
   clear HG2
   refine start_ (n := 15) (S := fun w' => w'.cell? ⟨g, 0, none⟩ = some (.slice (some ad) s0_0.length c0) ∧ w'.cell? ⟨g, 1, none⟩ = some (.int .i64 s0_1) ∧ w'.cell? ⟨(ad.add (s0_1.toNat * 4)).block, (ad.add (s0_1.toNat * 4)).off + 1, none⟩ = some (.int .i64 (rd_T39 s0_0 s0_1).f1)) (ds := [14]) #[false, false, false, false, false, false, false, false, false, false, false, false, false, false, false] (by kernel_rfl) rfl rfl ⟨((blk_cell HG3.out 0).trans rfl), ((blk_cell HG3.out 1).trans rfl), (pw_cell_below HB3.out x1)⟩ (fun hHeld => ?_)
   refine Mine.pS 0 (some 13) ?_; refine Mine.pS 1 (some 14) ?_; refine Mine.pS 2 (some 15) ?_; refine Mine.pS 3 (some 16) ?_; refine Mine.pS 5 (some 18) ?_; refine Mine.pS 6 (some 19) ?_; refine Mine.pS 7 (some 20) ?_; refine Mine.tS 4 (some 17) hHeld ?_; refine Mine.tS 8 (some 21) hHeld ?_; refine Mine.pS 9 (some 22) ?_; refine Mine.pS 10 (some 23) ?_; refine Mine.tS 11 (some 24) hHeld ?_; refine Mine.pS 12 (some 25) ?_; refine Mine.pS 13 (some 26) ?_
   refine last_ (i := 14) (N := none) #[true, true, true, true, true, true, true, true, true, true, true, true, true, true, true] rfl rfl (by kernel_rfl) (by decide) (fun K hK => ?_)
   refine skip_ (w1 := ?_) (by rfl) rfl ?_ ?_
   rotate_left
   ·go_simp
    rfl
   refine hK.out _ _ ?_
   clear hK K
   refine done_ (by kernel_rfl) ?_
   go_end0
   exact ⟨rfl, ⟨_, c0, (blk_drew (blk_put (cs' := #[.slice (some ad) s0_0.length c0, .int .i64 s0_1, .int .i64 a1, .int .i64 (rd_T39 s0_0 s0_1).f1]) (blk_put (cs' := #[.slice (some ad) s0_0.length c0, .int .i64 s0_1, .int .i64 a1, .int .i64 s0_3]) HG.out 2 (.int .i64 a1) rfl) 3 (.int .i64 (rd_T39 s0_0 s0_1).f1) rfl)), HGE.out, HC.out⟩, below_drew1 (below_set (j := 3) (v := .int .i64 (rd_T39 s0_0 s0_1).f1) (below_set (j := 2) (v := .int .i64 a1) HB.out HGE.out) HGE.out), keep_drew (((KeepBut.refl w g none).set_ 2 _).set_ 3 _)⟩
  ·rw [if_neg hn] at h; cases h
 ·rw [if_neg hz] at h
  simp only [Option.some.injEq, Prod.mk.injEq] at h
  obtain ⟨rfl, rfl, rfl⟩ := h
  have zz := beq_eq_false_iff_ne.mpr hz
  clear hz
  go_enter Try.func23, Try.ntmps23
  go_wp2
  go_end0
  exact ⟨rfl, HI.out, HB.out, KeepBut.refl w g none⟩
def fairleadref10_kind.l0 : Nat → ByteArray → List ByteArray → Int → Option (Int)
 | 0, _, _, _ => none
 | k + 1, x0, x3, x4 => if x4 < (x3.length : Int) then (if 0 ≤ x4 then (if (rdOf ByteArray.empty x3 x4).toList = x0.toList then (some x4) else (fairleadref10_kind.l0 k x0 x3 (wrap64 (x4 + 1)))) else (none)) else (some 0)
def fairleadref10_kind.f (k : Nat) (a0 : ByteArray) : Option (Int) := fairleadref10_kind.l0 k a0 (([(⟨#[]⟩ : ByteArray), (⟨#[107, 105, 108, 108]⟩ : ByteArray), (⟨#[116, 104, 114, 101, 97, 100]⟩ : ByteArray), (⟨#[116, 114, 97, 112]⟩ : ByteArray), (⟨#[101, 114, 114, 110, 111]⟩ : ByteArray), (⟨#[110, 111, 116, 105, 102, 121]⟩ : ByteArray), (⟨#[116, 114, 97, 99, 101]⟩ : ByteArray), (⟨#[108, 111, 103]⟩ : ByteArray), (⟨#[97, 108, 108, 111, 119]⟩ : ByteArray)] : List ByteArray)) 1
set_option maxHeartbeats 8000000 in
set_option maxRecDepth 100000 in
theorem fairleadref10_kind.calls (k : Nat) (a0 : ByteArray) (r : Int) (w : World) (h : fairleadref10_kind.f k a0 = some r) :
  Calls Try.prog 37 #[.string a0] w fun e w' => e = .returned (.int .i64 r) ∧ Below w.heap.size w w' := by
 have HB := Aside0.mk (Below.refl w.heap.size w)
 have H : (fairleadref10_kind.l0 k a0 (([(⟨#[]⟩ : ByteArray), (⟨#[107, 105, 108, 108]⟩ : ByteArray), (⟨#[116, 104, 114, 101, 97, 100]⟩ : ByteArray), (⟨#[116, 114, 97, 112]⟩ : ByteArray), (⟨#[101, 114, 114, 110, 111]⟩ : ByteArray), (⟨#[110, 111, 116, 105, 102, 121]⟩ : ByteArray), (⟨#[116, 114, 97, 99, 101]⟩ : ByteArray), (⟨#[108, 111, 103]⟩ : ByteArray), (⟨#[97, 108, 108, 111, 119]⟩ : ByteArray)] : List ByteArray)) 1) = some r := h
 clear h
 obtain ⟨y166, hy166⟩ : ∃ y_ : List ByteArray, y_ = (([(⟨#[]⟩ : ByteArray), (⟨#[107, 105, 108, 108]⟩ : ByteArray), (⟨#[116, 104, 114, 101, 97, 100]⟩ : ByteArray), (⟨#[116, 114, 97, 112]⟩ : ByteArray), (⟨#[101, 114, 114, 110, 111]⟩ : ByteArray), (⟨#[110, 111, 116, 105, 102, 121]⟩ : ByteArray), (⟨#[116, 114, 97, 99, 101]⟩ : ByteArray), (⟨#[108, 111, 103]⟩ : ByteArray), (⟨#[97, 108, 108, 111, 119]⟩ : ByteArray)] : List ByteArray)) := ⟨_, rfl⟩
 replace H : (fairleadref10_kind.l0 k a0 y166 1) = some r := by first | (rw [hy166]; with_reducible exact H) | (have H2_ := (Option.bind_some _ _).symm.trans H; rw [hy166]; with_reducible exact H2_) | (have H2_ := (Option.bind_some _ _).symm.trans H; with_reducible exact H2_) | with_reducible exact H | (rw [hy166]; exact H) | exact H
 have Ny166 := Aside0.mk hy166
 clear hy166
 have H' := Aside0.mk H
 clear H
 go_enter Try.func37, Try.ntmps37
 go_wp2_with (first | ((with_reducible refine gate_dst (N := 5) rfl ?_); refine Kd.R_lit Kd.string _ 9 ?hg (N := 5) ?hd (xs := ([(⟨#[]⟩ : ByteArray), (⟨#[107, 105, 108, 108]⟩ : ByteArray), (⟨#[116, 104, 114, 101, 97, 100]⟩ : ByteArray), (⟨#[116, 114, 97, 112]⟩ : ByteArray), (⟨#[101, 114, 114, 110, 111]⟩ : ByteArray), (⟨#[110, 111, 116, 105, 102, 121]⟩ : ByteArray), (⟨#[116, 114, 97, 99, 101]⟩ : ByteArray), (⟨#[108, 111, 103]⟩ : ByteArray), (⟨#[97, 108, 108, 111, 119]⟩ : ByteArray)] : List ByteArray)) (inner := [.string (⟨#[]⟩ : ByteArray), .string (⟨#[107, 105, 108, 108]⟩ : ByteArray), .string (⟨#[116, 104, 114, 101, 97, 100]⟩ : ByteArray), .string (⟨#[116, 114, 97, 112]⟩ : ByteArray), .string (⟨#[101, 114, 114, 110, 111]⟩ : ByteArray), .string (⟨#[110, 111, 116, 105, 102, 121]⟩ : ByteArray), .string (⟨#[116, 114, 97, 99, 101]⟩ : ByteArray), .string (⟨#[108, 111, 103]⟩ : ByteArray), .string (⟨#[97, 108, 108, 111, 119]⟩ : ByteArray)]) (ok := fun _ => True) (okp := fun _ => True) ?hr ?hp (fun _ hk => hk) trivial (Below.refl _ _) (Nat.le_refl _) (by simp) ?_; (case hd => rfl); (case hg => rfl); (case hr => first | (go_simp; done) | (go_simp; rfl)); (case hp => exact (Reps.one (show Kd.M Kd.string _ _ _ (⟨#[]⟩ : ByteArray) [.string (⟨#[]⟩ : ByteArray)] from rfl) (Reps.one (show Kd.M Kd.string _ _ _ (⟨#[107, 105, 108, 108]⟩ : ByteArray) [.string (⟨#[107, 105, 108, 108]⟩ : ByteArray)] from rfl) (Reps.one (show Kd.M Kd.string _ _ _ (⟨#[116, 104, 114, 101, 97, 100]⟩ : ByteArray) [.string (⟨#[116, 104, 114, 101, 97, 100]⟩ : ByteArray)] from rfl) (Reps.one (show Kd.M Kd.string _ _ _ (⟨#[116, 114, 97, 112]⟩ : ByteArray) [.string (⟨#[116, 114, 97, 112]⟩ : ByteArray)] from rfl) (Reps.one (show Kd.M Kd.string _ _ _ (⟨#[101, 114, 114, 110, 111]⟩ : ByteArray) [.string (⟨#[101, 114, 114, 110, 111]⟩ : ByteArray)] from rfl) (Reps.one (show Kd.M Kd.string _ _ _ (⟨#[110, 111, 116, 105, 102, 121]⟩ : ByteArray) [.string (⟨#[110, 111, 116, 105, 102, 121]⟩ : ByteArray)] from rfl) (Reps.one (show Kd.M Kd.string _ _ _ (⟨#[116, 114, 97, 99, 101]⟩ : ByteArray) [.string (⟨#[116, 114, 97, 99, 101]⟩ : ByteArray)] from rfl) (Reps.one (show Kd.M Kd.string _ _ _ (⟨#[108, 111, 103]⟩ : ByteArray) [.string (⟨#[108, 111, 103]⟩ : ByteArray)] from rfl) (Reps.one (show Kd.M Kd.string _ _ _ (⟨#[97, 108, 108, 111, 119]⟩ : ByteArray) [.string (⟨#[97, 108, 108, 111, 119]⟩ : ByteArray)] from rfl) (Reps.none _ _))))))))))); intro v167 w2 ho3 hb hg_ hnew_; clear hg_ hnew_; (first | rw [← Ny166.out] at ho3 | (simp only [Int.reduceToNat] at ho3; rw [← Ny166.out] at ho3)); have n0_ := Aside0.mk (Kd.R_lower ho3 (below_size (by repeat (first | (with_reducible first | exact HB.out | apply below_alloc | apply pw_below_drewN | apply below_drew1) | exact HB.out)))); have n1_ := Aside0.mk (below_step (by repeat (first | (with_reducible first | exact HB.out | apply below_alloc | apply pw_below_drewN | apply below_drew1) | exact HB.out)) hb); clear HB; have HO168 := n0_; have HB := n1_; clear n0_ n1_; clear hb ho3))
 go_loopg [4] k (fun kq v4 w' => ∃ (x4_1 : Int), v4 = .int .i64 x4_1 ∧ Aside0 (fairleadref10_kind.l0 kq a0 y166 x4_1 = some r) ∧ Aside0 (kq ≤ k) ∧ Aside0 (Kd.R Kd.string 9 w' w.heap.size (fun _ => True) v167 y166) ∧ Aside0 (Below w.heap.size w w'))
 case atStart => exact ⟨(1), (by first | rfl | (simp; done) | (simp [*]; done)), H', ⟨Nat.le_refl _⟩, ⟨by (with_reducible repeat (first | apply Kd.R_alloc | apply Kd.R_drewN | apply Kd.R_drew)); exact HO168.out⟩, ⟨by repeat (first | (with_reducible first | exact HB.out | apply below_alloc | apply pw_below_drewN | apply below_drew1) | exact HB.out)⟩⟩
 case round =>
  clear H'
  try clear p2
  try clear c3
  obtain ⟨x4_1, rfl, HA, HK1, HO_3, HB⟩ := hrel
  cases gk with
  | zero => exact absurd HA.out (by simp [fairleadref10_kind.l0])
  | succ k1 =>
   have H := HA.out
   clear HA
   simp only [fairleadref10_kind.l0] at H
   by_cases c4 : x4_1 < (y166.length : Int)
   ·rw [if_pos c4] at H
    have c4b0 : decide (x4_1 < (y166.length : Int)) = true := decide_eq_true c4
    clear c4
    by_cases c5 : 0 ≤ x4_1
    ·rw [if_pos c5] at H
     have c5b0 : decide (0 ≤ x4_1) = true := decide_eq_true c5
     clear c5
     by_cases c6 : (rdOf ByteArray.empty y166 x4_1).toList = a0.toList
     ·rw [if_pos c6] at H
      have c6b0 : ((rdOf ByteArray.empty y166 x4_1).toList == a0.toList) = true := beq_iff_eq.mpr c6
      have c6b1 : ((rdOf ByteArray.empty y166 x4_1).toList != a0.toList) = false := bne_eq_false_iff_eq.mpr c6
      clear c6
      obtain rfl := Option.some.inj H
      obtain ⟨Ao7, co7, eo7⟩ := Kd.R_slice HO_3.out
      subst eo7
      have p169 : 0 ≤ (x4_1 : Int) := of_decide_eq_true (by first | (with_reducible assumption) | assumption)
      have q169 : x4_1 < (y166.length : Int) := of_decide_eq_true (by first | (with_reducible assumption) | assumption)
      obtain ⟨ad169, e169, hx169_0⟩ := Kd.at_string (Kd.R_reads' HO_3.out).2.2 x4_1 p169 q169
      cases e169
      replace p169 := eq_true p169
      replace q169 := eq_true q169
      go_wp2
      go_ret
      exact ⟨by first | rfl | (simp [errW_none, errW_some] <;> rfl) | (simp [*, errW_none, errW_some] <;> rfl), by repeat (first | (with_reducible first | exact HB.out | apply below_alloc | apply pw_below_drewN | apply below_drew1) | exact HB.out)⟩
     ·rw [if_neg c6] at H
      have c6b0 : ((rdOf ByteArray.empty y166 x4_1).toList == a0.toList) = false := beq_eq_false_iff_ne.mpr c6
      have c6b1 : ((rdOf ByteArray.empty y166 x4_1).toList != a0.toList) = true := bne_iff_ne.mpr c6
      have H' := Aside0.mk H
      clear H
      obtain ⟨Ao8, co8, eo8⟩ := Kd.R_slice HO_3.out
      subst eo8
      have p169 : 0 ≤ (x4_1 : Int) := of_decide_eq_true (by first | (with_reducible assumption) | assumption)
      have q169 : x4_1 < (y166.length : Int) := of_decide_eq_true (by first | (with_reducible assumption) | assumption)
      obtain ⟨ad169, e169, hx169_0⟩ := Kd.at_string (Kd.R_reads' HO_3.out).2.2 x4_1 p169 q169
      cases e169
      replace p169 := eq_true p169
      replace q169 := eq_true q169
      go_wp2
      go_roundg k1
      case measure => have := HK1.out; omega
      case rel => exact ⟨(wrap64 (x4_1 + 1)), (by first | rfl | (simp; done) | (simp [*]; done)), H', ⟨by have := HK1.out; omega⟩, ⟨by (with_reducible repeat (first | apply Kd.R_alloc | apply Kd.R_drewN | apply Kd.R_drew)); exact HO_3.out⟩, ⟨by repeat (first | (with_reducible first | exact HB.out | apply below_alloc | apply pw_below_drewN | apply below_drew1) | exact HB.out)⟩⟩
    ·rw [if_neg c5] at H
     exact absurd H (by simp)
   ·rw [if_neg c4] at H
    have c4b0 : decide (x4_1 < (y166.length : Int)) = false := decide_eq_false c4
    clear c4
    obtain rfl := Option.some.inj H
    obtain ⟨Ao9, co9, eo9⟩ := Kd.R_slice HO_3.out
    subst eo9
    go_wp2
    go_ret
    exact ⟨by first | rfl | (simp [errW_none, errW_some] <;> rfl) | (simp [*, errW_none, errW_some] <;> rfl), by repeat (first | (with_reducible first | exact HB.out | apply below_alloc | apply pw_below_drewN | apply below_drew1) | exact HB.out)⟩
-- HAND rounds=False making=True
def fairleadref10_Place_number.f (s0_0 : List (S39)) (s0_1 s0_2 s0_3 : Int) : Option (Int × Int × Int × Int) := if 0 ≤ s0_1 ∧ s0_1 < (s0_0.length : Int) then (if (rd_T39 s0_0 s0_1).f0 = 2 then some ((rd_T39 s0_0 s0_1).f3, wrap64 (s0_1 + 1), s0_2, s0_3) else (fairleadref10_Place_fail.f s0_0 s0_1 s0_2 s0_3 7).bind fun r => some (0, r.1, r.2.1, r.2.2)) else none
set_option maxHeartbeats 8000000 in
set_option maxRecDepth 100000 in
theorem fairleadref10_Place_number.calls (g : Nat) (s0_0 : List (S39)) (s0_1 : Int) (s0_2 : Int) (s0_3 : Int) (r1 : Int) (r2 : Int) (r3 : Int) (r4 : Int) (w0 w : World) (hI : IsS60 w0 w g s0_0 s0_1 s0_2 s0_3) (hB : Below w0.heap.size w0 w) (h : fairleadref10_Place_number.f s0_0 s0_1 s0_2 s0_3 = some (r1, r2, r3, r4)) :
  Calls Try.prog 38 #[.pointer (some ⟨g, 0, none⟩)] w fun e w' => e = .returned (.int .u64 r1) ∧ IsS60 w0 w' g s0_0 r2 r3 r4 ∧ Below w0.heap.size w0 w' ∧ KeepBut w w' g none := by
 have hu39_ := Try.underlying39
 have hu60_ := Try.underlying60
 have HI := Aside0.mk hI
 have HB := Aside0.mk hB
 clear hI hB
 unfold fairleadref10_Place_number.f at h
 obtain ⟨A0, c0, HG, hg, HC0⟩ := HI.out
 have HC := Aside0.mk HC0
 have HGE := Aside0.mk hg
 have z0 := cellS60_0 HG
 have z1 := cellS60_1 HG
 have z2 := cellS60_2 HG
 have z3 := cellS60_3 HG
 have HG := Aside0.mk HG
 clear HC0 hg
 by_cases hn : 0 ≤ s0_1 ∧ s0_1 < (s0_0.length : Int)
 ·rw [if_pos hn] at h
  obtain ⟨ad, rfl, x0, x1, x2, x3⟩ := at_T39 HC.out s0_1 hn.1 hn.2
  have e0 := eq_true hn.1
  have e1 := eq_true hn.2
  have H := Aside0.mk h
  clear h hn
  go_enter Try.func38, Try.ntmps38
  go_wp2
  have HG3 := Aside0.mk (blk_drew HG.out)
  have HB3 := Aside0.mk (below_drew1 HB.out)
  refine start_ (n := 12) (S := fun w' => w'.cell? ⟨g, 0, none⟩ = some (.slice (some ad) s0_0.length c0) ∧ w'.cell? ⟨g, 1, none⟩ = some (.int .i64 s0_1) ∧ w'.cell? (ad.add (s0_1.toNat * 4)) = some (.int .i64 (rd_T39 s0_0 s0_1).f0) ∧ w'.cell? ⟨(ad.add (s0_1.toNat * 4)).block, (ad.add (s0_1.toNat * 4)).off + 1, none⟩ = some (.int .i64 (rd_T39 s0_0 s0_1).f1) ∧ w'.cell? ⟨(ad.add (s0_1.toNat * 4)).block, (ad.add (s0_1.toNat * 4)).off + 2, none⟩ = some (.string (rd_T39 s0_0 s0_1).f2) ∧ w'.cell? ⟨(ad.add (s0_1.toNat * 4)).block, (ad.add (s0_1.toNat * 4)).off + 3, none⟩ = some (.int .u64 (rd_T39 s0_0 s0_1).f3)) (ds := [11]) #[false, false, false, false, false, false, false, false, false, false, false, false] (by kernel_rfl) rfl rfl ⟨((blk_cell HG3.out 0).trans rfl), ((blk_cell HG3.out 1).trans rfl), (pw_cell_below HB3.out x0), (pw_cell_below HB3.out x1), (pw_cell_below HB3.out x2), (pw_cell_below HB3.out x3)⟩ (fun hHeld => ?_)
  refine Mine.pS 0 (some 4) ?_; refine Mine.pS 1 (some 5) ?_; refine Mine.pS 2 (some 6) ?_; refine Mine.pS 4 (some 8) ?_; refine Mine.pS 5 (some 9) ?_; refine Mine.pS 6 (some 10) ?_; refine Mine.tS 3 (some 7) hHeld ?_; refine Mine.tS 7 (some 11) hHeld ?_; refine Mine.pS 8 (some 12) ?_; refine Mine.tS 9 (some 13) hHeld ?_
  refine one_ (i := 10) (N := some 3) #[true, true, true, true, true, true, true, true, true, true, true, false] rfl rfl (by kernel_rfl) (by decide) (fun K hK => ?_)
  refine value_ (w1 := ?_) (v := ?_) (by rfl) rfl ?_ ?_
  rotate_left 2
  ·go_simp
   constructor
   ·rfl
   ·rfl
  refine hK.out _ _ ⟨((blk_cell (blk_alloc HG3.out _) 0).trans rfl), ((blk_cell (blk_alloc HG3.out _) 1).trans rfl), (pw_cell_below (below_alloc HB3.out _) x0), (pw_cell_below (below_alloc HB3.out _) x1), (pw_cell_below (below_alloc HB3.out _) x2), (pw_cell_below (below_alloc HB3.out _) x3)⟩ (fun hHeld => ?_)
  clear hK K
  refine norm_ (a' := ?_) ?_ ?_
  rotate_left
  ·show Act.put _ (some 3) _ = _
   simp only [Act.put, List.setIfInBounds_toArray, List.set_cons_zero, List.set_cons_succ, i64_w, i32_w]
   rfl
  refine last_ (i := 11) (N := none) #[true, true, true, true, true, true, true, true, true, true, true, true] rfl rfl (by kernel_rfl) (by decide) (fun K hK => ?_)
  refine skip_ (w1 := ?_) (by rfl) rfl ?_ ?_
  rotate_left
  ·go_simp
   rfl
  refine hK.out _ _ ?_
  clear hK K
  refine done_ (by kernel_rfl) ?_
  have HI1 : Aside0 (IsS60 w0 ((w.alloc (Obj.cells #[.int .i64 (rd_T39 s0_0 s0_1).f0, .int .i64 (rd_T39 s0_0 s0_1).f1, .string (rd_T39 s0_0 s0_1).f2, .int .u64 (rd_T39 s0_0 s0_1).f3] 39)).drew) g s0_0 s0_1 s0_2 s0_3) := ⟨⟨_, c0, blk_drew (blk_alloc HG.out _), HGE.out, HC.out⟩⟩
  have HG1 := Aside0.mk (blk_drew (blk_alloc HG.out (Obj.cells #[.int .i64 (rd_T39 s0_0 s0_1).f0, .int .i64 (rd_T39 s0_0 s0_1).f1, .string (rd_T39 s0_0 s0_1).f2, .int .u64 (rd_T39 s0_0 s0_1).f3] 39)))
  have HN1 := Aside0.mk (blk_drew (blk_new w (Obj.cells #[.int .i64 (rd_T39 s0_0 s0_1).f0, .int .i64 (rd_T39 s0_0 s0_1).f1, .string (rd_T39 s0_0 s0_1).f2, .int .u64 (rd_T39 s0_0 s0_1).f3] 39)))
  have HB1 := Aside0.mk (below_drew1 (below_alloc HB.out (Obj.cells #[.int .i64 (rd_T39 s0_0 s0_1).f0, .int .i64 (rd_T39 s0_0 s0_1).f1, .string (rd_T39 s0_0 s0_1).f2, .int .u64 (rd_T39 s0_0 s0_1).f3] 39)))
  have HK1 := Aside0.mk (keep_drew (keep_alloc (KeepBut.refl w g none) (Obj.cells #[.int .i64 (rd_T39 s0_0 s0_1).f0, .int .i64 (rd_T39 s0_0 s0_1).f1, .string (rd_T39 s0_0 s0_1).f2, .int .u64 (rd_T39 s0_0 s0_1).f3] 39)))
  generalize ((w.alloc (Obj.cells #[.int .i64 (rd_T39 s0_0 s0_1).f0, .int .i64 (rd_T39 s0_0 s0_1).f1, .string (rd_T39 s0_0 s0_1).f2, .int .u64 (rd_T39 s0_0 s0_1).f3] 39)).drew) = W1 at HI1 HG1 HN1 HB1 HK1 ⊢
  clear z0 z1 z2 z3 x0 x1 x2 x3 HG3 HB3 e0 e1
  have z0 := cellS60_0 HG1.out
  have z1 := cellS60_1 HG1.out
  have f1 := blk_frozen HG1.out 1
  have y0 := (blk_cell HN1.out 0).trans (show _ = some (.int .i64 (rd_T39 s0_0 s0_1).f0 : Value) from rfl)
  have y3 := (blk_cell HN1.out 3).trans (show _ = some (.int .u64 (rd_T39 s0_0 s0_1).f3 : Value) from rfl)
  have H' := H.out
  by_cases hk : (rd_T39 s0_0 s0_1).f0 = 2
  ·rw [if_pos hk] at H'
   obtain ⟨q1, q2, q3, q4⟩ : (rd_T39 s0_0 s0_1).f3 = r1 ∧ wrap64 (s0_1 + 1) = r2 ∧ s0_2 = r3 ∧ s0_3 = r4 := by simpa using H'
   subst q1 q2 q3 q4
   have k1 : ((rd_T39 s0_0 s0_1).f0 != 2) = false := bne_eq_false_iff_eq.2 hk
   have k2 : ((rd_T39 s0_0 s0_1).f0 == 2) = true := beq_iff_eq.2 hk
   have hne : g ≠ w.heap.size := Nat.ne_of_lt (blk_lt HG.out)
   have hne' := hne.symm
   clear hk H'
   go_wp2
   go_ret
   exact ⟨rfl, ⟨_, c0, blk_put (cs' := #[.slice (some ad) s0_0.length c0, .int .i64 (wrap64 (s0_1 + 1)), .int .i64 s0_2, .int .i64 s0_3]) HG1.out 1 (.int .i64 (wrap64 (s0_1 + 1))) rfl, HGE.out, HC.out⟩, below_set (j := 1) (v := .int .i64 (wrap64 (s0_1 + 1))) HB1.out HGE.out, HK1.out.set_ 1 _⟩
  ·rw [if_neg hk] at H'
   obtain ⟨⟨p1, p2, p3⟩, hf, H'⟩ := Option.bind_eq_some_iff.mp H'
   obtain ⟨q1, q2, q3, q4⟩ : 0 = r1 ∧ p1 = r2 ∧ p2 = r3 ∧ p3 = r4 := by simpa using H'
   subst q1 q2 q3 q4
   have HF := Aside0.mk hf
   have k1 : ((rd_T39 s0_0 s0_1).f0 != 2) = true := bne_iff_ne.2 hk
   have k2 : ((rd_T39 s0_0 s0_1).f0 == 2) = false := beq_eq_false_iff_ne.2 hk
   clear hk H' hf
   go_wp2_with (first | (go_at_call 23; (with_reducible refine (fairleadref10_Place_fail.calls g s0_0 s0_1 s0_2 s0_3 7 p1 p2 p3 w0 _ HI1.out HB1.out HF.out).mono ?_); rintro e w2 ⟨rfl, hI2, hB2, hK2⟩; have HI2 := Aside0.mk hI2; have HB2 := Aside0.mk hB2; have HK2 := Aside0.mk hK2; clear hI2 hB2 hK2))
   (repeat (go_step3; (try go_wp2)))
   go_ret
   exact ⟨rfl, HI2.out, HB2.out, HK1.out.trans HK2.out (.inl rfl)⟩
 ·rw [if_neg hn] at h; cases h
end Go.Proofs.Ytfahchgglapglaa.M
