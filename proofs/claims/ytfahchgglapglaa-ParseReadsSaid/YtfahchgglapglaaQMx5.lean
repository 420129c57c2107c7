-- Laid by a program (wip/tools/myprint.py) out of the loaded program's own print: for each Go function a Lean function and the proof of its contract.
import Derived.Test.YtfahchgglapglaaQMx0
import Derived.Test.YtfahchgglapglaaQMx3
import Derived.Test.YtfahchgglapglaaQMx4
namespace Go.Proofs.Ytfahchgglapglaa.M
open Go.RowKit Go.Proofs.YtfahchgglapglaaW.PrintWords Go.Proofs.YtfahchgglapglaaW.PrintLast Go.Proofs.YtfahchgglapglaaW.PrintMore
attribute [local go_sem] max2_int min2_int max_two min_two max_three min_three max_four min_four   -- for this text's walks alone
set_option linter.unusedVariables false
set_option linter.unusedSimpArgs false
def lex_All.l0 : Nat → ByteArray → List (S39) → Int → Option ((List (S39)) × Int × Int)
 | 0, _, _, _ => none
 | k + 1, x0, x5, x6 => if x6 < (x0.size : Int) then (if 0 ≤ x6 then (if x6 ≤ (x0.size : Int) then ((lex_one.f k (x0.extract (x6 : Int).toNat x0.size)).bind fun bt116 => (if bt116.2.2.2.2 = 0 then (if x5.length < 3518437208883 then (if 0 ≤ (wrap64 (x6 + (bt116.2.2.1.size : Int))) then (if (wrap64 (x6 + (bt116.2.2.1.size : Int))) ≤ (x0.size : Int) then ((lex_blank.f k (x0.extract ((wrap64 (x6 + (bt116.2.2.1.size : Int))) : Int).toNat x0.size)).bind fun t125 => (lex_All.l0 k x0 (x5 ++ [(⟨bt116.1, x6, bt116.2.2.1, bt116.2.2.2.1⟩ : S39)]) (wrap64 ((wrap64 (x6 + (bt116.2.2.1.size : Int))) + t125)))) else (none)) else (none)) else (none)) else (some (([] : List (S39)), bt116.2.2.2.2, x6)))) else (none)) else (none)) else (if x5.length < 3518437208883 then (some ((x5 ++ [(⟨4, (x0.size : Int), (⟨#[]⟩ : ByteArray), 0⟩ : S39)]), 0, (-1))) else (none))
def lex_All.f (k : Nat) (a0 : ByteArray) : Option ((List (S39)) × Int × Int) := if (a0.size : Int) > 8192 then (some (([] : List (S39)), 4, 0)) else ((lex_blank.f k a0).bind fun t112 => (lex_All.l0 k a0 ([] : List (S39)) t112))
set_option maxHeartbeats 8000000 in
set_option maxRecDepth 100000 in
theorem lex_All.calls (k : Nat) (a0 : ByteArray) (r1 : List (S39)) (r2 : Int) (r3 : Int) (w : World) (h : lex_All.f k a0 = some (r1, r2, r3)) :
  Calls Try.prog 13 #[.string a0] w fun e w' => ∃ v0_ : Value, e = .returned (.tuple #[v0_, .int .i64 r2, .int .i64 r3]) ∧ Kd.R k39 39 w' w.heap.size (fun _ => True) v0_ r1 ∧ Below w.heap.size w w' := by
 have hu39 := Try.underlying39
 have HB := Aside0.mk (Below.refl w.heap.size w)
 have H : (if (a0.size : Int) > 8192 then (some (([] : List (S39)), 4, 0)) else ((lex_blank.f k a0).bind fun t112 => (lex_All.l0 k a0 ([] : List (S39)) t112))) = some (r1, r2, r3) := h
 clear h
 by_cases c2 : (a0.size : Int) > 8192
 ·rw [if_pos c2] at H
  have c2b0 : decide (8192 < (a0.size : Int)) = true := decide_eq_true c2
  have c2b1 : decide (8192 < a0.size) = true := decide_eq_true (by omega)
  clear c2
  simp only [Option.some.injEq, Prod.mk.injEq] at H
  obtain ⟨rfl, rfl, rfl⟩ := H
  go_enter Try.func13, Try.ntmps13
  go_wp2
  go_ret3
  exact ⟨_, by first | rfl | (simp [errW_none, errW_some] <;> rfl) | (simp [*, errW_none, errW_some] <;> rfl), by first | exact Kd.R_nil _ _ _ _ _ | exact Kd.N_nil _ _ _ _ _ | exact Kd.V_nil _ _ _ _ _ | exact Kd.Q_nil _ _ _ _ _ | exact Kd.S_nil _ _ _ _ _, by repeat (first | (with_reducible first | exact HB.out | apply below_alloc | apply pw_below_drewN | apply below_drew1) | exact HB.out)⟩
 ·rw [if_neg c2] at H
  have c2b0 : decide (8192 < (a0.size : Int)) = false := decide_eq_false c2
  have c2b1 : decide (8192 < a0.size) = false := decide_eq_false (by omega)
  clear c2
  replace H := Option.bind_eq_some_iff.mp H
  obtain ⟨t112, A30, H⟩ := H
  replace H : (lex_All.l0 k a0 ([] : List (S39)) t112) = some (r1, r2, r3) := H
  have A3 := Aside0.mk A30
  clear A30
  have H' := Aside0.mk H
  clear H
  go_enter Try.func13, Try.ntmps13
  go_wp2_with (first | ((with_reducible refine gate_callee (f := 28) rfl ?_); refine goesL_ (some 13) rfl rfl Try.func28 (by kernel_rfl) rfl #[.string a0] rfl (by (try simp only [List.map_toArray, List.map_cons, List.map_nil]); first | done | rfl | (simp only [List.length_drop, List.length_take]; rfl)) ?_; (with_reducible refine (lex_blank.calls k a0 t112 _ A3.out).mono ?_); rintro e w4 ⟨rfl, hb⟩; refine ⟨_, rfl, ?_⟩; have n0_ := Aside0.mk (below_step (by repeat (first | (with_reducible first | exact HB.out | apply below_alloc | apply pw_below_drewN | apply below_drew1) | exact HB.out)) hb); clear HB; have HB := n0_; clear n0_; (try clear hb); (try clear hb2); (try clear hk); (try clear hi)))
  go_loopg [5, 6] k (fun kq v5 v6 w' => ∃ (x5_1 : List (S39)) (x6_1 : Int), v6 = .int .i64 x6_1 ∧ Aside0 (lex_All.l0 kq a0 x5_1 x6_1 = some (r1, r2, r3)) ∧ Aside0 (kq ≤ k) ∧ Aside0 (Kd.R k39 39 w' w.heap.size (fun _ => True) v5 x5_1) ∧ Aside0 (Below w.heap.size w w'))
  case atStart => exact ⟨(([] : List (S39))), (t112), (by first | rfl | (simp; done) | (simp [*]; done)), H', ⟨Nat.le_refl _⟩, ⟨by first | exact Kd.R_nil _ _ _ _ _ | exact Kd.N_nil _ _ _ _ _ | exact Kd.V_nil _ _ _ _ _ | exact Kd.Q_nil _ _ _ _ _ | exact Kd.S_nil _ _ _ _ _⟩, ⟨by repeat (first | (with_reducible first | exact HB.out | apply below_alloc | apply pw_below_drewN | apply below_drew1) | exact HB.out)⟩⟩
  case round =>
   clear H'
   try clear c1
   try clear c2
   try clear c2b0
   try clear c2b1
   try clear p2
   obtain ⟨x5_1, x6_1, rfl, HA, HK1, HO_5, HB⟩ := hrel
   cases gk with
   | zero => exact absurd HA.out (by simp [lex_All.l0])
   | succ k1 =>
    have H := HA.out
    clear HA
    simp only [lex_All.l0] at H
    by_cases c5 : x6_1 < (a0.size : Int)
    ·rw [if_pos c5] at H
     have c5b0 : decide (x6_1 < (a0.size : Int)) = true := decide_eq_true c5
     clear c5
     by_cases c6 : 0 ≤ x6_1
     ·rw [if_pos c6] at H
      have c6b0 := eq_true c6
      have c6b1 : decide (0 ≤ x6_1) = true := decide_eq_true c6
      clear c6
      by_cases c7 : x6_1 ≤ (a0.size : Int)
      ·rw [if_pos c7] at H
       have c7b0 := eq_true c7
       have c7b1 : decide (x6_1 ≤ (a0.size : Int)) = true := decide_eq_true c7
       clear c7
       replace H := Option.bind_eq_some_iff.mp H
       obtain ⟨⟨t116, t117, t118, t119, t120⟩, A80, H⟩ := H
       replace H : (if t120 = 0 then (if x5_1.length < 3518437208883 then (if 0 ≤ (wrap64 (x6_1 + (t118.size : Int))) then (if (wrap64 (x6_1 + (t118.size : Int))) ≤ (a0.size : Int) then ((lex_blank.f k1 (a0.extract ((wrap64 (x6_1 + (t118.size : Int))) : Int).toNat a0.size)).bind fun t125 => (lex_All.l0 k1 a0 (x5_1 ++ [(⟨t116, x6_1, t118, t119⟩ : S39)]) (wrap64 ((wrap64 (x6_1 + (t118.size : Int))) + t125)))) else (none)) else (none)) else (none)) else (some (([] : List (S39)), t120, x6_1))) = some (r1, r2, r3) := H
       have A8 := Aside0.mk A80
       clear A80
       by_cases c9 : t120 = 0
       ·rw [if_pos c9] at H
        have c9b0 : (t120 == 0) = true := beq_iff_eq.mpr c9
        have c9b1 : (t120 != 0) = false := bne_eq_false_iff_eq.mpr c9
        clear c9
        by_cases c10 : x5_1.length < 3518437208883
        ·rw [if_pos c10] at H
         have LMc10 := Aside0.mk c10
         clear c10
         obtain ⟨y122, hy122⟩ : ∃ y_ : List (S39), y_ = (x5_1 ++ [(⟨t116, x6_1, t118, t119⟩ : S39)]) := ⟨_, rfl⟩
         replace H : (if 0 ≤ (wrap64 (x6_1 + (t118.size : Int))) then (if (wrap64 (x6_1 + (t118.size : Int))) ≤ (a0.size : Int) then ((lex_blank.f k1 (a0.extract ((wrap64 (x6_1 + (t118.size : Int))) : Int).toNat a0.size)).bind fun t125 => (lex_All.l0 k1 a0 y122 (wrap64 ((wrap64 (x6_1 + (t118.size : Int))) + t125)))) else (none)) else (none)) = some (r1, r2, r3) := by first | (rw [hy122]; with_reducible exact H) | (have H2_ := (Option.bind_some _ _).symm.trans H; rw [hy122]; with_reducible exact H2_) | (have H2_ := (Option.bind_some _ _).symm.trans H; with_reducible exact H2_) | with_reducible exact H | (rw [hy122]; exact H) | exact H
         have Ny122 := Aside0.mk hy122
         clear hy122
         obtain ⟨ji11, hji11⟩ : ∃ j_ : Int, (wrap64 (x6_1 + (t118.size : Int))) = j_ := ⟨_, rfl⟩
         replace H : (if 0 ≤ (ji11) then (if (ji11) ≤ (a0.size : Int) then ((lex_blank.f k1 (a0.extract ((ji11) : Int).toNat a0.size)).bind fun t125 => (lex_All.l0 k1 a0 y122 (wrap64 ((ji11) + t125)))) else (none)) else (none)) = some (r1, r2, r3) := by first | (rw [hji11] at H; exact H) | (simp only [hji11] at H ⊢; exact H)
         (try rw [hji11] at A8)
         have hji11w : (IntKind.i64.wrap (x6_1 + (t118.size : Int))) = ji11 := (i64_w _).trans hji11
         by_cases c12 : 0 ≤ (ji11)
         ·rw [if_pos c12] at H
          have c12b0 := eq_true c12
          have c12b1 : decide (0 ≤ (ji11)) = true := decide_eq_true c12
          clear c12
          by_cases c13 : (ji11) ≤ (a0.size : Int)
          ·rw [if_pos c13] at H
           have c13b0 := eq_true c13
           have c13b1 : decide ((ji11) ≤ (a0.size : Int)) = true := decide_eq_true c13
           clear c13
           replace H := Option.bind_eq_some_iff.mp H
           obtain ⟨t125, A140, H⟩ := H
           replace H : (lex_All.l0 k1 a0 y122 (wrap64 ((ji11) + t125))) = some (r1, r2, r3) := H
           have A14 := Aside0.mk A140
           clear A140
           have H' := Aside0.mk H
           clear H
           go_wp2_with (first | ((with_reducible refine gate_callee (f := 29) rfl ?_); refine goesL_ (some 22) rfl rfl Try.func29 (by kernel_rfl) rfl #[.string (a0.extract (x6_1 : Int).toNat a0.size)] rfl (by (try simp only [List.map_toArray, List.map_cons, List.map_nil]); first | done | rfl | (simp only [List.length_drop, List.length_take]; rfl)) ?_; (with_reducible refine (lex_one.calls k1 (a0.extract (x6_1 : Int).toNat a0.size) t116 t117 t118 t119 t120 _ A8.out).mono ?_); rintro e w15 ⟨rfl, hb⟩; refine ⟨_, rfl, ?_⟩; have n0_ := Aside0.mk (Kd.R_below (by (with_reducible repeat (first | apply Kd.R_alloc | apply Kd.R_drewN | apply Kd.R_drew)); exact HO_5.out) hb); have n1_ := Aside0.mk (below_step (by repeat (first | (with_reducible first | exact HB.out | apply below_alloc | apply pw_below_drewN | apply below_drew1) | exact HB.out)) hb); clear HO_5; clear HB; have HO_5 := n0_; have HB := n1_; clear n0_ n1_; (try clear hb); (try clear hb2); (try clear hk); (try clear hi)) | ((with_reducible refine gate_dst (N := 7) rfl ?_); refine box_event ?hg (N := 7) ?hd (cs := #[.int .i64 0, .int .i64 0, .string (⟨#[]⟩ : ByteArray), .int .u64 0]) (t := 39) ?hr ?_; (case hd => rfl); (case hg => rfl); (case hr => first | (go_simp; done) | (go_simp; rfl)); intro gb121 hg w16 hbox hb; have n0_ := Aside0.mk (Kd.R_below (Kd.R_elderB (by (with_reducible repeat (first | apply Kd.R_alloc | apply Kd.R_drewN | apply Kd.R_drew)); exact HO_5.out) gb121 (Nat.le_of_eq hg.symm)) hb); have n1_ := Aside0.mk (below_step (by repeat (first | (with_reducible first | exact HB.out | apply below_alloc | apply pw_below_drewN | apply below_drew1) | exact HB.out)) hb); have n2_ := Aside0.mk (hbox); have n3_ := Aside0.mk ((by rw [hg]; exact (below_size (by repeat (first | (with_reducible first | exact HB.out | apply below_alloc | apply pw_below_drewN | apply below_drew1) | exact HB.out))) : w.heap.size ≤ gb121)); have n4_ := Aside0.mk ((by rw [hg]; exact (below_size (by repeat (first | (with_reducible first | exact HB.out | apply below_alloc | apply pw_below_drewN | apply below_drew1) | exact HB.out))) : w.heap.size ≤ gb121)); clear HO_5; clear HB; have HO_5 := n0_; have HB := n1_; have BK121 := n2_; have GW121 := n3_; have GE121 := n4_; clear n0_ n1_ n2_ n3_ n4_; clear hb hbox hg; obtain ⟨hcz17_0, hcz17_1, hcz17_2, hcz17_3⟩ := Mine.cells4 BK121.out; have hfz17_0 := blk_frozen BK121.out) | ((with_reducible refine gate_builtin (b := .append) (xs := #[.tmp 31, .tmp 33]) rfl ?_); at_builtin; refine Kd.R_append k39 (w0 := w) w.heap.size rfl (.tmp 31) (.tmp 33) 34 39 (.agg #[(.int .i64 0), (.int .i64 0), (.string ⟨#[]⟩), (.int .u64 0)]) 40 rfl Try.underlying34 info39 rfl (by decide) (by omega) u5 x5_1 (⟨t116, x6_1, t118, t119⟩ : S39) [.int .i64 t116, .int .i64 x6_1, .string t118, .int .u64 t119] (fun k_ => k_ ≠ gb121) (fun _ => False) rfl (by first | (go_simp; done) | (go_simp; rfl)) ?aP (fun _ hk => hk.elim) ?aF ?aO ?aB ?aS ?aL ?_; (case aP => exact k39_mkM _ _ _ (⟨t116, x6_1, t118, t119⟩ : S39)); (case aB => exact (by repeat (first | (with_reducible first | exact HB.out | apply below_alloc | apply pw_below_drewN | apply below_drew1 | refine below_set ?_ GE121.out) | exact HB.out))); (case aF => exact (fun k_ hk => Kd.freshB (g := gb121) (o := .cells #[.int .i64 t116, .int .i64 x6_1, .string t118, .int .u64 t119] 39 (0, 0)) (by (with_reducible repeat (first | refine blk_drewN ?_ _ | refine blk_drew ?_ | refine blk_alloc ?_ _)); refine blk_put (cs := #[.int .i64 t116, .int .i64 t117, .string t118, .int .u64 t119]) ?_ 1 _ rfl; (with_reducible repeat (first | refine blk_drewN ?_ _ | refine blk_drew ?_ | refine blk_alloc ?_ _)); refine blk_put (cs := #[.int .i64 t116, .int .i64 t117, .string t118, .int .u64 0]) ?_ 3 _ rfl; (with_reducible repeat (first | refine blk_drewN ?_ _ | refine blk_drew ?_ | refine blk_alloc ?_ _)); refine blk_put (cs := #[.int .i64 t116, .int .i64 t117, .string (⟨#[]⟩ : ByteArray), .int .u64 0]) ?_ 2 _ rfl; (with_reducible repeat (first | refine blk_drewN ?_ _ | refine blk_drew ?_ | refine blk_alloc ?_ _)); refine blk_put (cs := #[.int .i64 t116, .int .i64 0, .string (⟨#[]⟩ : ByteArray), .int .u64 0]) ?_ 1 _ rfl; (with_reducible repeat (first | refine blk_drewN ?_ _ | refine blk_drew ?_ | refine blk_alloc ?_ _)); refine blk_put (cs := #[.int .i64 0, .int .i64 0, .string (⟨#[]⟩ : ByteArray), .int .u64 0]) ?_ 0 _ rfl; (with_reducible repeat (first | refine blk_drewN ?_ _ | refine blk_drew ?_ | refine blk_alloc ?_ _)); exact BK121.out) k_ hk)); (case aO => exact (by (with_reducible repeat (first | apply Kd.R_alloc | apply Kd.R_drewN | apply Kd.R_drew)); exact Kd.R_mono (Kd.R_far (p := ⟨gb121, 1, none⟩) (Kd.R_far (p := ⟨gb121, 3, none⟩) (Kd.R_far (p := ⟨gb121, 2, none⟩) (Kd.R_far (p := ⟨gb121, 1, none⟩) (Kd.R_far (p := ⟨gb121, 0, none⟩) (Kd.R_mono HO_5.out (fun k_ hk => (⟨hk, hk.2⟩ : _ ∧ k_ ≠ gb121))) (fun _ hk => by first | exact hk.2 | exact hk | exact trivial) (.int .i64 t116)) (fun _ hk => by first | exact hk.2 | exact hk | exact trivial) (.int .i64 t117)) (fun _ hk => by first | exact hk.2 | exact hk | exact trivial) (.string t118)) (fun _ hk => by first | exact hk.2 | exact hk | exact trivial) (.int .u64 t119)) (fun _ hk => by first | exact hk.2 | exact hk | exact trivial) (.int .i64 x6_1)) (fun _ hk => hk.1.2))); (case aS => exact (below_size (by repeat (first | (with_reducible first | exact HB.out | apply below_alloc | apply pw_below_drewN | apply below_drew1 | refine below_set ?_ GE121.out) | exact HB.out)))); (case aL => have := LMc10.out; omega); intro v123 w18 ho hb hg hat; rw [← Ny122.out] at ho; have n0_ := Aside0.mk (blk_grown (g := gb121) (o := .cells #[.int .i64 t116, .int .i64 x6_1, .string t118, .int .u64 t119] 39 (0, 0)) (by (with_reducible repeat (first | refine blk_drewN ?_ _ | refine blk_drew ?_ | refine blk_alloc ?_ _)); refine blk_put (cs := #[.int .i64 t116, .int .i64 t117, .string t118, .int .u64 t119]) ?_ 1 _ rfl; (with_reducible repeat (first | refine blk_drewN ?_ _ | refine blk_drew ?_ | refine blk_alloc ?_ _)); refine blk_put (cs := #[.int .i64 t116, .int .i64 t117, .string t118, .int .u64 0]) ?_ 3 _ rfl; (with_reducible repeat (first | refine blk_drewN ?_ _ | refine blk_drew ?_ | refine blk_alloc ?_ _)); refine blk_put (cs := #[.int .i64 t116, .int .i64 t117, .string (⟨#[]⟩ : ByteArray), .int .u64 0]) ?_ 2 _ rfl; (with_reducible repeat (first | refine blk_drewN ?_ _ | refine blk_drew ?_ | refine blk_alloc ?_ _)); refine blk_put (cs := #[.int .i64 t116, .int .i64 0, .string (⟨#[]⟩ : ByteArray), .int .u64 0]) ?_ 1 _ rfl; (with_reducible repeat (first | refine blk_drewN ?_ _ | refine blk_drew ?_ | refine blk_alloc ?_ _)); refine blk_put (cs := #[.int .i64 0, .int .i64 0, .string (⟨#[]⟩ : ByteArray), .int .u64 0]) ?_ 0 _ rfl; (with_reducible repeat (first | refine blk_drewN ?_ _ | refine blk_drew ?_ | refine blk_alloc ?_ _)); exact BK121.out) hg (Kd.R_away HO_5.out (fun _ hk => by first | exact hk.2 | exact hk | exact trivial))); have n1_ := Aside0.mk (hb); have n2_ := Aside0.mk (ho); clear BK121; clear HB; clear HO_5; have BK121 := n0_; have HB := n1_; have HO124 := n2_; clear n0_ n1_ n2_; clear ho hb hg hat; obtain ⟨hcz19_0, hcz19_1, hcz19_2, hcz19_3⟩ := Mine.cells4 BK121.out; have hfz19_0 := blk_frozen BK121.out) | ((with_reducible refine gate_callee (f := 28) rfl ?_); refine goesL_ (some 44) rfl rfl Try.func28 (by kernel_rfl) rfl #[.string (a0.extract ((ji11) : Int).toNat a0.size)] rfl (by (try simp only [List.map_toArray, List.map_cons, List.map_nil]); first | done | (simp only [hji11]; rfl) | rfl | (simp only [List.length_drop, List.length_take]; rfl)) ?_; (with_reducible refine (lex_blank.calls k1 (a0.extract ((ji11) : Int).toNat a0.size) t125 _ A14.out).mono ?_); rintro e w20 ⟨rfl, hb⟩; refine ⟨_, rfl, ?_⟩; have n0_ := Aside0.mk (Kd.R_below (by (with_reducible repeat (first | apply Kd.R_alloc | apply Kd.R_drewN | apply Kd.R_drew)); exact HO124.out) hb); have n1_ := Aside0.mk (blk_below (g := gb121) (o := .cells #[.int .i64 t116, .int .i64 x6_1, .string t118, .int .u64 t119] 39 (0, 0)) (by (with_reducible repeat (first | refine blk_drewN ?_ _ | refine blk_drew ?_ | refine blk_alloc ?_ _)); exact BK121.out) hb); have n2_ := Aside0.mk (below_step (by repeat (first | (with_reducible first | exact HB.out | apply below_alloc | apply pw_below_drewN | apply below_drew1 | refine below_set ?_ GE121.out) | exact HB.out)) hb); clear HO124; clear BK121; clear HB; have HO124 := n0_; have BK121 := n1_; have HB := n2_; clear n0_ n1_ n2_; (try clear hb); (try clear hb2); (try clear hk); (try clear hi)))
           go_roundg k1
           case measure => have := HK1.out; omega
           case rel => exact ⟨(y122), (wrap64 ((ji11) + t125)), (by first | rfl | (simp; done) | (simp only [← hji11] <;> (first | rfl | simp)) | (simp [*]; done)), H', ⟨by have := HK1.out; omega⟩, ⟨by (with_reducible repeat (first | apply Kd.R_alloc | apply Kd.R_drewN | apply Kd.R_drew)); exact Kd.R_mono HO124.out (fun _ hk => trivial)⟩, ⟨by repeat (first | (with_reducible first | exact HB.out | apply below_alloc | apply pw_below_drewN | apply below_drew1 | refine below_set ?_ GE121.out) | exact HB.out)⟩⟩
          ·rw [if_neg c13] at H
           exact absurd H (by simp)
         ·rw [if_neg c12] at H
          exact absurd H (by simp)
        ·rw [if_neg c10] at H
         exact absurd H (by simp)
       ·rw [if_neg c9] at H
        have c9b0 : (t120 == 0) = false := beq_eq_false_iff_ne.mpr c9
        have c9b1 : (t120 != 0) = true := bne_iff_ne.mpr c9
        simp only [Option.some.injEq, Prod.mk.injEq] at H
        obtain ⟨rfl, rfl, rfl⟩ := H
        go_wp2_with (first | ((with_reducible refine gate_callee (f := 29) rfl ?_); refine goesL_ (some 22) rfl rfl Try.func29 (by kernel_rfl) rfl #[.string (a0.extract (x6_1 : Int).toNat a0.size)] rfl (by (try simp only [List.map_toArray, List.map_cons, List.map_nil]); first | done | rfl | (simp only [List.length_drop, List.length_take]; rfl)) ?_; (with_reducible refine (lex_one.calls k1 (a0.extract (x6_1 : Int).toNat a0.size) t116 t117 t118 t119 t120 _ A8.out).mono ?_); rintro e w21 ⟨rfl, hb⟩; refine ⟨_, rfl, ?_⟩; have n0_ := Aside0.mk (Kd.R_below (by (with_reducible repeat (first | apply Kd.R_alloc | apply Kd.R_drewN | apply Kd.R_drew)); exact HO_5.out) hb); have n1_ := Aside0.mk (below_step (by repeat (first | (with_reducible first | exact HB.out | apply below_alloc | apply pw_below_drewN | apply below_drew1) | exact HB.out)) hb); clear HO_5; clear HB; have HO_5 := n0_; have HB := n1_; clear n0_ n1_; (try clear hb); (try clear hb2); (try clear hk); (try clear hi)) | ((with_reducible refine gate_dst (N := 7) rfl ?_); refine box_event ?hg (N := 7) ?hd (cs := #[.int .i64 0, .int .i64 0, .string (⟨#[]⟩ : ByteArray), .int .u64 0]) (t := 39) ?hr ?_; (case hd => rfl); (case hg => rfl); (case hr => first | (go_simp; done) | (go_simp; rfl)); intro gb121 hg w22 hbox hb; have n0_ := Aside0.mk (Kd.R_below (Kd.R_elderB (by (with_reducible repeat (first | apply Kd.R_alloc | apply Kd.R_drewN | apply Kd.R_drew)); exact HO_5.out) gb121 (Nat.le_of_eq hg.symm)) hb); have n1_ := Aside0.mk (below_step (by repeat (first | (with_reducible first | exact HB.out | apply below_alloc | apply pw_below_drewN | apply below_drew1) | exact HB.out)) hb); have n2_ := Aside0.mk (hbox); have n3_ := Aside0.mk ((by rw [hg]; exact (below_size (by repeat (first | (with_reducible first | exact HB.out | apply below_alloc | apply pw_below_drewN | apply below_drew1) | exact HB.out))) : w.heap.size ≤ gb121)); have n4_ := Aside0.mk ((by rw [hg]; exact (below_size (by repeat (first | (with_reducible first | exact HB.out | apply below_alloc | apply pw_below_drewN | apply below_drew1) | exact HB.out))) : w.heap.size ≤ gb121)); clear HO_5; clear HB; have HO_5 := n0_; have HB := n1_; have BK121 := n2_; have GW121 := n3_; have GE121 := n4_; clear n0_ n1_ n2_ n3_ n4_; clear hb hbox hg; obtain ⟨hcz23_0, hcz23_1, hcz23_2, hcz23_3⟩ := Mine.cells4 BK121.out; have hfz23_0 := blk_frozen BK121.out))
        go_ret3
        exact ⟨_, by first | rfl | (simp [errW_none, errW_some] <;> rfl) | (simp [*, errW_none, errW_some] <;> rfl), by first | exact Kd.R_nil _ _ _ _ _ | exact Kd.N_nil _ _ _ _ _ | exact Kd.V_nil _ _ _ _ _ | exact Kd.Q_nil _ _ _ _ _ | exact Kd.S_nil _ _ _ _ _, by repeat (first | (with_reducible first | exact HB.out | apply below_alloc | apply pw_below_drewN | apply below_drew1 | refine below_set ?_ GE121.out) | exact HB.out)⟩
      ·rw [if_neg c7] at H
       exact absurd H (by simp)
     ·rw [if_neg c6] at H
      exact absurd H (by simp)
    ·rw [if_neg c5] at H
     have c5b0 : decide (x6_1 < (a0.size : Int)) = false := decide_eq_false c5
     clear c5
     by_cases c24 : x5_1.length < 3518437208883
     ·rw [if_pos c24] at H
      have LMc24 := Aside0.mk c24
      clear c24
      obtain ⟨y113, hy113⟩ : ∃ y_ : List (S39), y_ = (x5_1 ++ [(⟨4, (a0.size : Int), (⟨#[]⟩ : ByteArray), 0⟩ : S39)]) := ⟨_, rfl⟩
      replace H : (some (y113, 0, (-1))) = some (r1, r2, r3) := by first | (rw [hy113]; with_reducible exact H) | (have H2_ := (Option.bind_some _ _).symm.trans H; rw [hy113]; with_reducible exact H2_) | (have H2_ := (Option.bind_some _ _).symm.trans H; with_reducible exact H2_) | with_reducible exact H | (rw [hy113]; exact H) | exact H
      have Ny113 := Aside0.mk hy113
      clear hy113
      simp only [Option.some.injEq, Prod.mk.injEq] at H
      obtain ⟨rfl, rfl, rfl⟩ := H
      go_wp2_with (first | ((with_reducible refine gate_builtin (b := .append) (xs := #[.tmp 46, .tmp 50]) rfl ?_); at_builtin; refine Kd.R_append k39 (w0 := w) w.heap.size rfl (.tmp 46) (.tmp 50) 34 39 (.agg #[(.int .i64 0), (.int .i64 0), (.string ⟨#[]⟩), (.int .u64 0)]) 40 rfl Try.underlying34 info39 rfl (by decide) (by omega) u5 x5_1 (⟨4, (a0.size : Int), (⟨#[]⟩ : ByteArray), 0⟩ : S39) [.int .i64 4, .int .i64 (a0.size : Int), .string (⟨#[]⟩ : ByteArray), .int .u64 0] (fun _ => True) (fun _ => False) rfl rfl ?aP (fun _ hk => hk.elim) ?aF ?aO ?aB ?aS ?aL ?_; (case aP => exact k39_mkM _ _ _ (⟨4, (a0.size : Int), (⟨#[]⟩ : ByteArray), 0⟩ : S39)); (case aB => exact (by repeat (first | (with_reducible first | exact HB.out | apply below_alloc | apply pw_below_drewN | apply below_drew1) | exact HB.out))); (case aF => exact (fun _ _ => trivial)); (case aO => exact (by (with_reducible repeat (first | apply Kd.R_alloc | apply Kd.R_drewN | apply Kd.R_drew)); exact HO_5.out)); (case aS => exact (below_size (by repeat (first | (with_reducible first | exact HB.out | apply below_alloc | apply pw_below_drewN | apply below_drew1) | exact HB.out)))); (case aL => have := LMc24.out; omega); intro v114 w25 ho hb hg hat; rw [← Ny113.out] at ho; have n0_ := Aside0.mk (hb); have n1_ := Aside0.mk (ho); clear HB; clear HO_5; have HB := n0_; have HO115 := n1_; clear n0_ n1_; clear ho hb hg hat))
      go_ret3
      exact ⟨_, by first | rfl | (simp [errW_none, errW_some] <;> rfl) | (simp [*, errW_none, errW_some] <;> rfl), by (with_reducible repeat (first | apply Kd.R_alloc | apply Kd.R_drewN | apply Kd.R_drew)); exact HO115.out, by repeat (first | (with_reducible first | exact HB.out | apply below_alloc | apply pw_below_drewN | apply below_drew1) | exact HB.out)⟩
     ·rw [if_neg c24] at H
      exact absurd H (by simp)
-- HAND rounds=False making=True
open Mine
theorem am {p : Prop} (h : p) : Aside0 p := ⟨h⟩
/-- A reader of tokens: its block, and what its row of tokens holds. -/
def IsRd (w0 w : World) (g : Nat) (L : List S39) (n : Int) : Prop := ∃ A0 c0, w.heap[g]? = some (.cells #[.slice A0 L.length c0, .int .i64 n] 52 (0, 0)) ∧ w0.heap.size ≤ g ∧ Kd.C k39 w0 A0 L.length L ∧ Below w0.heap.size w0 w
theorem IsRd.below {w0 w w1 : World} {g : Nat} {L : List S39} {n : Int} (h : IsRd w0 w g L n) (hb : Below w.heap.size w w1) : IsRd w0 w1 g L n := by
 obtain ⟨A0, c0, h1, h2, h3, h4⟩ := h
 exact ⟨A0, c0, blk_below h1 hb, h2, h3, below_step h4 hb⟩
theorem IsRd.alloc {w0 w : World} {g : Nat} {L : List S39} {n : Int} (h : IsRd w0 w g L n) (o : Obj) : IsRd w0 (w.alloc o) g L n := h.below (below_alloc (Below.refl _ _) o)
theorem IsRd.drew {w0 w : World} {g : Nat} {L : List S39} {n : Int} (h : IsRd w0 w g L n) : IsRd w0 w.drew g L n := by
 obtain ⟨A0, c0, h1, h2, h3, h4⟩ := h
 exact ⟨A0, c0, h1, h2, h3, h4.drew⟩
theorem IsRd.lt {w0 w : World} {g : Nat} {L : List S39} {n : Int} (h : IsRd w0 w g L n) : g < w.heap.size := by obtain ⟨A0, c0, h1, _⟩ := h; exact blk_lt h1
theorem IsRd.ge {w0 w : World} {g : Nat} {L : List S39} {n : Int} (h : IsRd w0 w g L n) : w0.heap.size ≤ g := by obtain ⟨A0, c0, h1, h2, _⟩ := h; exact h2
theorem IsRd.w0 {w0 w : World} {g : Nat} {L : List S39} {n : Int} (h : IsRd w0 w g L n) : Below w0.heap.size w0 w := by obtain ⟨A0, c0, h1, h2, h3, h4⟩ := h; exact h4
theorem IsRd.c1 {w0 w : World} {g : Nat} {L : List S39} {n : Int} (h : IsRd w0 w g L n) : w.cell? ⟨g, 1, none⟩ = some (.int .i64 n) := by obtain ⟨A0, c0, h1, _⟩ := h; exact (blk_cell h1 1).trans rfl
theorem IsRd.fr {w0 w : World} {g : Nat} {L : List S39} {n : Int} (h : IsRd w0 w g L n) (j : Nat) : w.frozen? ⟨g, j, none⟩ = false := by obtain ⟨A0, c0, h1, _⟩ := h; exact blk_frozen h1 j
theorem IsRd.set {w0 w : World} {g : Nat} {L : List S39} {n : Int} (h : IsRd w0 w g L n) (m : Int) : IsRd w0 (w.setCell ⟨g, 1, none⟩ (.int .i64 m)) g L m := by
 obtain ⟨A0, c0, h1, h2, h3, h4⟩ := h
 exact ⟨A0, c0, blk_put h1 1 _ rfl, h2, h3, below_set h4 h2⟩
/-- A store into a block that is not the reader's. -/
theorem IsRd.far {w0 w : World} {g : Nat} {L : List S39} {n : Int} (h : IsRd w0 w g L n) {p : Addr} (h1 : p.block ≠ g) (h2 : w0.heap.size ≤ p.block) (v : Value) : IsRd w0 (w.setCell p v) g L n := by
 obtain ⟨A0, c0, h3, h4, h5, h6⟩ := h
 exact ⟨A0, c0, blk_far h3 (Ne.symm h1) v, h4, h5, h6.setCell h2 _⟩
/-- The token that is read: its cells. -/
theorem IsRd.at {w0 w : World} {g : Nat} {L : List S39} {n : Int} (h : IsRd w0 w g L n) (h0 : 0 ≤ n) (h1 : n < (L.length : Int)) : ∃ ad c0, w.cell? ⟨g, 0, none⟩ = some (.slice (some ad) L.length c0) ∧ ad.block < w0.heap.size ∧ w.cell? (ad.add (n.toNat * 4)) = some (.int .i64 (rd_T39 L n).f0) ∧ w.cell? ⟨(ad.add (n.toNat * 4)).block, (ad.add (n.toNat * 4)).off + 1, none⟩ = some (.int .i64 (rd_T39 L n).f1) ∧ w.cell? ⟨(ad.add (n.toNat * 4)).block, (ad.add (n.toNat * 4)).off + 2, none⟩ = some (.string (rd_T39 L n).f2) ∧ w.cell? ⟨(ad.add (n.toNat * 4)).block, (ad.add (n.toNat * 4)).off + 3, none⟩ = some (.int .u64 (rd_T39 L n).f3) := by
 obtain ⟨A0, c0, h3, h4, h5, h6⟩ := h
 obtain ⟨ad, rfl, x0, x1, x2, x3⟩ := at_T39 h5 n h0 h1
 exact ⟨ad, c0, (blk_cell h3 0).trans rfl, by have := World.block_lt_of_cell? w0 _ x0; rwa [add_block] at this, pw_cell_below h6 x0, pw_cell_below h6 x1, pw_cell_below h6 x2, pw_cell_below h6 x3⟩
theorem cl4 {W : World} {g t : Nat} {v0 v1 v2 v3 : Value} (h : Aside0 (W.heap[g]? = some (.cells #[v0, v1, v2, v3] t (0, 0)))) : W.cell? ⟨g, 0, none⟩ = some v0 ∧ W.cell? ⟨g, 1, none⟩ = some v1 ∧ W.cell? ⟨g, 2, none⟩ = some v2 ∧ W.cell? ⟨g, 3, none⟩ = some v3 := ⟨(blk_cell h.out 0).trans rfl, (blk_cell h.out 1).trans rfl, (blk_cell h.out 2).trans rfl, (blk_cell h.out 3).trans rfl⟩
/-- What a reader panics with. -/
def prPanic (e at_ : Int) : Ending := .panicked [{ v := .iface 48 (.agg #[.int .i64 e, .int .i64 at_]), recovered := false }]
set_option maxHeartbeats 8000000 in
set_option maxRecDepth 100000 in
theorem parse_reader_now.calls (g : Nat) (L : List S39) (n : Int) (w0 w : World) (h : IsRd w0 w g L n) (h0 : 0 ≤ n) (h1 : n < (L.length : Int)) :
  Calls Try.prog 19 #[.pointer (some ⟨g, 0, none⟩)] w fun e w' => e = .returned (.agg #[.int .i64 (rd_T39 L n).f0, .int .i64 (rd_T39 L n).f1, .string (rd_T39 L n).f2, .int .u64 (rd_T39 L n).f3]) ∧ Below w.heap.size w w' := by
 have hu := Try.underlying39
 obtain ⟨ad, c0, z0, hne, x0, x1, x2, x3⟩ := h.at h0 h1
 have z1 := h.c1
 have hL := am h
 have HNE := am hne
 clear h hne
 go_enter Try.func19, Try.ntmps19
 clear z0 z1 x0 x1 x2 x3
 go_wp2_with (first | ((with_reducible refine gate_dst (N := 2) rfl ?_); refine box_event rfl (N := 2) rfl (cs := #[.int .i64 0, .int .i64 0, .string ⟨#[]⟩, .int .u64 0]) (t := 39) (by first | (go_simp; done) | (go_simp; rfl)) ?_; intro gr hg w1 hbox hb; have GR := am hg; have BR := am hbox; have HB := am hb; clear hg hbox hb))
 have hL1 := hL.out.below HB.out
 obtain ⟨ad2, c02, z0, hne2, x0, x1, x2, x3⟩ := hL1.at h0 h1
 have z1 := hL1.c1
 have nge := am (show gr ≠ ad2.block from by have := hL.out.w0.size; have := GR.out; omega)
 have ngg := am (show gr ≠ g from by have := hL.out.lt; have := GR.out; omega)
 have r0 := blk_frozen BR.out 0
 have r1 := blk_frozen BR.out 1
 have r2 := blk_frozen BR.out 2
 have r3 := blk_frozen BR.out 3
 have s0 := (blk_cell BR.out 0).trans rfl
 have s1 := (blk_cell BR.out 1).trans rfl
 have s2 := (blk_cell BR.out 2).trans rfl
 have s3 := (blk_cell BR.out 3).trans rfl
 go_region_held3 (fun w' => w'.cell? ⟨g, 0, none⟩ = some (.slice (some ad2) L.length c02) ∧ w'.cell? ⟨g, 1, none⟩ = some (.int .i64 n) ∧ w'.cell? (ad2.add (n.toNat * 4)) = some (.int .i64 (rd_T39 L n).f0) ∧ w'.cell? ⟨(ad2.add (n.toNat * 4)).block, (ad2.add (n.toNat * 4)).off + 1, none⟩ = some (.int .i64 (rd_T39 L n).f1) ∧ w'.cell? ⟨(ad2.add (n.toNat * 4)).block, (ad2.add (n.toNat * 4)).off + 2, none⟩ = some (.string (rd_T39 L n).f2) ∧ w'.cell? ⟨(ad2.add (n.toNat * 4)).block, (ad2.add (n.toNat * 4)).off + 3, none⟩ = some (.int .u64 (rd_T39 L n).f3)) (first | exact ⟨z0, z1, x0, x1, x2, x3⟩ | exact ⟨cell_sets4 z0 (Ne.symm ngg.out) _ _ _ _, cell_sets4 z1 (Ne.symm ngg.out) _ _ _ _, cell_sets4 x0 (by rw [add_block]; exact Ne.symm nge.out) _ _ _ _, cell_sets4 x1 (by show (ad2.add _).block ≠ gr; rw [add_block]; exact Ne.symm nge.out) _ _ _ _, cell_sets4 x2 (by show (ad2.add _).block ≠ gr; rw [add_block]; exact Ne.symm nge.out) _ _ _ _, cell_sets4 x3 (by show (ad2.add _).block ≠ gr; rw [add_block]; exact Ne.symm nge.out) _ _ _ _⟩) (fail)
 go_wp2
 refine bodyPost_ret (results_cell_row rfl _ _ gr 39 (#[.int .i64 (rd_T39 L n).f0, .int .i64 (rd_T39 L n).f1, .string (rd_T39 L n).f2, .int .u64 (rd_T39 L n).f3]) (0, 0) _ rfl (blk_put (blk_put (blk_put (blk_put BR.out 0 _ rfl) 1 _ rfl) 2 _ rfl) 3 _ rfl) hu rfl (by kernel_rfl)) rfl ?_
 exact ⟨rfl, below_drew1 (below_set (below_set (below_set (below_set HB.out (by rw [GR.out]; exact Nat.le_refl _)) (by rw [GR.out]; exact Nat.le_refl _)) (by rw [GR.out]; exact Nat.le_refl _)) (by rw [GR.out]; exact Nat.le_refl _))⟩
set_option maxHeartbeats 8000000 in
set_option maxRecDepth 100000 in
theorem parse_reader_fail.calls (g : Nat) (L : List S39) (n er : Int) (w0 w : World) (h : IsRd w0 w g L n) (h0 : 0 ≤ n) (h1 : n < (L.length : Int)) :
  Calls Try.prog 17 #[.pointer (some ⟨g, 0, none⟩), .int .i64 er] w fun e w' => e = prPanic er (rd_T39 L n).f1 ∧ Below w.heap.size w w' := by
 have hfd := fun (cs_ : Array Value) (j_ : Nat) (w_ : World) => Mine.run_field (P := Try.prog) Try.underlying39 cs_ j_ w_
 have hu48 := Try.underlying48
 have hL := am h
 clear h
 go_enter Try.func17, Try.ntmps17
 go_wp2_with (first | (go_at_call 19; (refine (parse_reader_now.calls g L n w0 _ hL.out h0 h1).mono ?_); rintro e w1 ⟨rfl, hb⟩; have HB := am hb; clear hb))
 exact ⟨rfl, rfl, HB.out⟩
theorem IsRd.far4 {w0 w : World} {g : Nat} {L : List S39} {n : Int} (h : IsRd w0 w g L n) {b : Nat} (h1 : b ≠ g) (h2 : w0.heap.size ≤ b) (v0 v1 v2 v3 : Value) : IsRd w0 ((((w.setCell ⟨b, 0, none⟩ v0).setCell ⟨b, 1, none⟩ v1).setCell ⟨b, 2, none⟩ v2).setCell ⟨b, 3, none⟩ v3) g L n :=
 (((h.far h1 h2 v0).far h1 h2 v1).far h1 h2 v2).far h1 h2 v3
-- HAND rounds=False making=True
open Mine
/-- A token of a kind and a text stands there, or does not. -/
def prTake (L : List S39) (n kind : Int) (text : ByteArray) (b : Bool) : Prop := (b = true ∧ (rd_T39 L n).f0 = kind ∧ (rd_T39 L n).f2.toList = text.toList) ∨ (b = false ∧ ¬ ((rd_T39 L n).f0 = kind ∧ (rd_T39 L n).f2.toList = text.toList))
set_option maxHeartbeats 8000000 in
set_option maxRecDepth 100000 in
theorem parse_reader_take.calls (g : Nat) (L : List S39) (n kind : Int) (text : ByteArray) (b : Bool) (w0 w : World) (h : IsRd w0 w g L n) (h0 : 0 ≤ n) (h1 : n < (L.length : Int)) (hb : prTake L n kind text b) :
  Calls Try.prog 16 #[.pointer (some ⟨g, 0, none⟩), .int .i64 kind, .string text] w fun e w' => e = .returned (.bool b) ∧ IsRd w0 w' g L (if b = true then wrap64 (n + 1) else n) ∧ One g w w' := by
 have hu := Try.underlying39
 have hL := am h
 have HO := am (One.refl g w)
 clear h
 rcases hb with ⟨rfl, rfl, ht⟩ | ⟨rfl, hb⟩
 ·have ht1 := beq_iff_eq.mpr ht
  clear ht
  go_enter Try.func16, Try.ntmps16
  go_wp2_with (first | (go_at_call 19; (refine (parse_reader_now.calls g L n w0 _ (by first | exact hL.out | exact hL.out.drew | exact hL.out.alloc _) h0 h1).mono ?_); rintro e w1 ⟨rfl, hb⟩; have HO1 := am ((HO).out.below hb); have hL1 := am (hL.out.below hb); clear hb) | ((with_reducible refine gate_dst (N := 7) rfl ?_); refine box_event rfl (N := 7) rfl (cs := #[.int .i64 0, .int .i64 0, .string ⟨#[]⟩, .int .u64 0]) (t := 39) (by first | (go_simp; done) | (go_simp; rfl)) ?_; intro gt hg w2 hbox hb; have hL2 := am (hL1.out.below hb); have NG_gt := am (show gt ≠ g from by rw [hg]; exact Nat.ne_of_gt hL1.out.lt); have HO2 := am (HO1.out.below hb); have GT_gt := am (show w.heap.size ≤ gt from by rw [hg]; exact HO1.out.size); have GW_gt := am (show w0.heap.size ≤ gt from by rw [hg]; exact hL1.out.w0.size); have BX_gt := am hbox; have s0 := (blk_cell hbox 0).trans rfl; have s1 := (blk_cell hbox 1).trans rfl; have s2 := (blk_cell hbox 2).trans rfl; have s3 := (blk_cell hbox 3).trans rfl; have sf0 := blk_frozen hbox 0; have sf1 := blk_frozen hbox 1; have sf2 := blk_frozen hbox 2; have sf3 := blk_frozen hbox 3; have q1 := hL2.out.c1; have q2 := hL2.out.fr 1; have n1_gt := NG_gt.out; have n2_gt := Ne.symm NG_gt.out; clear hbox hb hg))
  go_ret
  exact ⟨rfl, (hL2.out.far4 NG_gt.out GW_gt.out _ _ _ _).set _, (HO2.out.put4 GT_gt.out _ _ _ _).setCell _ _⟩
 ·by_cases hk : (rd_T39 L n).f0 = kind
  ·have ht : ¬ (rd_T39 L n).f2.toList = text.toList := fun e => hb ⟨hk, e⟩
   subst hk
   clear hb
   have ht1 := beq_eq_false_iff_ne.mpr ht
   clear ht
   go_enter Try.func16, Try.ntmps16
   go_wp2_with (first | (go_at_call 19; (refine (parse_reader_now.calls g L n w0 _ (by first | exact hL.out | exact hL.out.drew | exact hL.out.alloc _) h0 h1).mono ?_); rintro e w1 ⟨rfl, hb⟩; have HO1 := am ((HO).out.below hb); have hL1 := am (hL.out.below hb); clear hb) | ((with_reducible refine gate_dst (N := 7) rfl ?_); refine box_event rfl (N := 7) rfl (cs := #[.int .i64 0, .int .i64 0, .string ⟨#[]⟩, .int .u64 0]) (t := 39) (by first | (go_simp; done) | (go_simp; rfl)) ?_; intro gt hg w2 hbox hb; have hL2 := am (hL1.out.below hb); have NG_gt := am (show gt ≠ g from by rw [hg]; exact Nat.ne_of_gt hL1.out.lt); have HO2 := am (HO1.out.below hb); have GT_gt := am (show w.heap.size ≤ gt from by rw [hg]; exact HO1.out.size); have GW_gt := am (show w0.heap.size ≤ gt from by rw [hg]; exact hL1.out.w0.size); have BX_gt := am hbox; have s0 := (blk_cell hbox 0).trans rfl; have s1 := (blk_cell hbox 1).trans rfl; have s2 := (blk_cell hbox 2).trans rfl; have s3 := (blk_cell hbox 3).trans rfl; have sf0 := blk_frozen hbox 0; have sf1 := blk_frozen hbox 1; have sf2 := blk_frozen hbox 2; have sf3 := blk_frozen hbox 3; have q1 := hL2.out.c1; have q2 := hL2.out.fr 1; have n1_gt := NG_gt.out; have n2_gt := Ne.symm NG_gt.out; clear hbox hb hg))
   go_ret
   exact ⟨rfl, hL2.out.far4 NG_gt.out GW_gt.out _ _ _ _, HO2.out.put4 GT_gt.out _ _ _ _⟩
  ·have hk0 := beq_eq_false_iff_ne.mpr hk
   have hk1 := bne_iff_ne.mpr hk
   clear hk hb
   go_enter Try.func16, Try.ntmps16
   go_wp2_with (first | (go_at_call 19; (refine (parse_reader_now.calls g L n w0 _ (by first | exact hL.out | exact hL.out.drew | exact hL.out.alloc _) h0 h1).mono ?_); rintro e w1 ⟨rfl, hb⟩; have HO1 := am ((HO).out.below hb); have hL1 := am (hL.out.below hb); clear hb) | ((with_reducible refine gate_dst (N := 7) rfl ?_); refine box_event rfl (N := 7) rfl (cs := #[.int .i64 0, .int .i64 0, .string ⟨#[]⟩, .int .u64 0]) (t := 39) (by first | (go_simp; done) | (go_simp; rfl)) ?_; intro gt hg w2 hbox hb; have hL2 := am (hL1.out.below hb); have NG_gt := am (show gt ≠ g from by rw [hg]; exact Nat.ne_of_gt hL1.out.lt); have HO2 := am (HO1.out.below hb); have GT_gt := am (show w.heap.size ≤ gt from by rw [hg]; exact HO1.out.size); have GW_gt := am (show w0.heap.size ≤ gt from by rw [hg]; exact hL1.out.w0.size); have BX_gt := am hbox; have s0 := (blk_cell hbox 0).trans rfl; have s1 := (blk_cell hbox 1).trans rfl; have s2 := (blk_cell hbox 2).trans rfl; have s3 := (blk_cell hbox 3).trans rfl; have sf0 := blk_frozen hbox 0; have sf1 := blk_frozen hbox 1; have sf2 := blk_frozen hbox 2; have sf3 := blk_frozen hbox 3; have q1 := hL2.out.c1; have q2 := hL2.out.fr 1; have n1_gt := NG_gt.out; have n2_gt := Ne.symm NG_gt.out; clear hbox hb hg))
   go_ret
   exact ⟨rfl, hL2.out.far4 NG_gt.out GW_gt.out _ _ _ _, HO2.out.put4 GT_gt.out _ _ _ _⟩
-- HAND rounds=False making=True
/- fail stands beside now. -/
def parse_kind.f (a0 : ByteArray) : Option (Int) := if a0.toList = ([107, 105, 108, 108] : List UInt8) then (some 1) else (if a0.toList = ([116, 104, 114, 101, 97, 100] : List UInt8) then (some 2) else (if a0.toList = ([116, 114, 97, 112] : List UInt8) then (some 3) else (if a0.toList = ([101, 114, 114, 110, 111] : List UInt8) then (some 4) else (if a0.toList = ([110, 111, 116, 105, 102, 121] : List UInt8) then (some 5) else (if a0.toList = ([116, 114, 97, 99, 101] : List UInt8) then (some 6) else (if a0.toList = ([108, 111, 103] : List UInt8) then (some 7) else (if a0.toList = ([97, 108, 108, 111, 119] : List UInt8) then (some 8) else (some 0))))))))
set_option maxHeartbeats 8000000 in
set_option maxRecDepth 100000 in
theorem parse_kind.calls (a0 : ByteArray) (r : Int) (w : World) (h : parse_kind.f a0 = some r) :
  Calls Try.prog 32 #[.string a0] w fun e w' => e = .returned (.int .i64 r) ∧ Drawn0 w w' := by
 have H : (if a0.toList = ([107, 105, 108, 108] : List UInt8) then (some 1) else (if a0.toList = ([116, 104, 114, 101, 97, 100] : List UInt8) then (some 2) else (if a0.toList = ([116, 114, 97, 112] : List UInt8) then (some 3) else (if a0.toList = ([101, 114, 114, 110, 111] : List UInt8) then (some 4) else (if a0.toList = ([110, 111, 116, 105, 102, 121] : List UInt8) then (some 5) else (if a0.toList = ([116, 114, 97, 99, 101] : List UInt8) then (some 6) else (if a0.toList = ([108, 111, 103] : List UInt8) then (some 7) else (if a0.toList = ([97, 108, 108, 111, 119] : List UInt8) then (some 8) else (some 0))))))))) = some r := h
 clear h
 by_cases c2 : a0.toList = ([107, 105, 108, 108] : List UInt8)
 ·rw [if_pos c2] at H
  have c2b0 : (a0.toList == ([107, 105, 108, 108] : List UInt8)) = true := beq_iff_eq.mpr c2
  have c2b1 : (a0.toList != ([107, 105, 108, 108] : List UInt8)) = false := bne_eq_false_iff_eq.mpr c2
  clear c2
  obtain rfl := Option.some.inj H
  go_enter Try.func32, Try.ntmps32
  go_wp2
  go_ret
  exact ⟨by first | rfl | (simp; done) | (simp [*]; done), by repeat (first | exact Drawn0.refl _ | apply Drawn0.step)⟩
 ·rw [if_neg c2] at H
  have c2b0 : (a0.toList == ([107, 105, 108, 108] : List UInt8)) = false := beq_eq_false_iff_ne.mpr c2
  have c2b1 : (a0.toList != ([107, 105, 108, 108] : List UInt8)) = true := bne_iff_ne.mpr c2
  by_cases c3 : a0.toList = ([116, 104, 114, 101, 97, 100] : List UInt8)
  ·rw [if_pos c3] at H
   have c3b0 : (a0.toList == ([116, 104, 114, 101, 97, 100] : List UInt8)) = true := beq_iff_eq.mpr c3
   have c3b1 : (a0.toList != ([116, 104, 114, 101, 97, 100] : List UInt8)) = false := bne_eq_false_iff_eq.mpr c3
   clear c3
   obtain rfl := Option.some.inj H
   go_enter Try.func32, Try.ntmps32
   go_wp2
   go_ret
   exact ⟨by first | rfl | (simp; done) | (simp [*]; done), by repeat (first | exact Drawn0.refl _ | apply Drawn0.step)⟩
  ·rw [if_neg c3] at H
   have c3b0 : (a0.toList == ([116, 104, 114, 101, 97, 100] : List UInt8)) = false := beq_eq_false_iff_ne.mpr c3
   have c3b1 : (a0.toList != ([116, 104, 114, 101, 97, 100] : List UInt8)) = true := bne_iff_ne.mpr c3
   by_cases c4 : a0.toList = ([116, 114, 97, 112] : List UInt8)
   ·rw [if_pos c4] at H
    have c4b0 : (a0.toList == ([116, 114, 97, 112] : List UInt8)) = true := beq_iff_eq.mpr c4
    have c4b1 : (a0.toList != ([116, 114, 97, 112] : List UInt8)) = false := bne_eq_false_iff_eq.mpr c4
    clear c4
    obtain rfl := Option.some.inj H
    go_enter Try.func32, Try.ntmps32
    go_wp2
    go_ret
    exact ⟨by first | rfl | (simp; done) | (simp [*]; done), by repeat (first | exact Drawn0.refl _ | apply Drawn0.step)⟩
   ·rw [if_neg c4] at H
    have c4b0 : (a0.toList == ([116, 114, 97, 112] : List UInt8)) = false := beq_eq_false_iff_ne.mpr c4
    have c4b1 : (a0.toList != ([116, 114, 97, 112] : List UInt8)) = true := bne_iff_ne.mpr c4
    by_cases c5 : a0.toList = ([101, 114, 114, 110, 111] : List UInt8)
    ·rw [if_pos c5] at H
     have c5b0 : (a0.toList == ([101, 114, 114, 110, 111] : List UInt8)) = true := beq_iff_eq.mpr c5
     have c5b1 : (a0.toList != ([101, 114, 114, 110, 111] : List UInt8)) = false := bne_eq_false_iff_eq.mpr c5
     clear c5
     obtain rfl := Option.some.inj H
     go_enter Try.func32, Try.ntmps32
     go_wp2
     go_ret
     exact ⟨by first | rfl | (simp; done) | (simp [*]; done), by repeat (first | exact Drawn0.refl _ | apply Drawn0.step)⟩
    ·rw [if_neg c5] at H
     have c5b0 : (a0.toList == ([101, 114, 114, 110, 111] : List UInt8)) = false := beq_eq_false_iff_ne.mpr c5
     have c5b1 : (a0.toList != ([101, 114, 114, 110, 111] : List UInt8)) = true := bne_iff_ne.mpr c5
     by_cases c6 : a0.toList = ([110, 111, 116, 105, 102, 121] : List UInt8)
     ·rw [if_pos c6] at H
      have c6b0 : (a0.toList == ([110, 111, 116, 105, 102, 121] : List UInt8)) = true := beq_iff_eq.mpr c6
      have c6b1 : (a0.toList != ([110, 111, 116, 105, 102, 121] : List UInt8)) = false := bne_eq_false_iff_eq.mpr c6
      clear c6
      obtain rfl := Option.some.inj H
      go_enter Try.func32, Try.ntmps32
      go_wp2
      go_ret
      exact ⟨by first | rfl | (simp; done) | (simp [*]; done), by repeat (first | exact Drawn0.refl _ | apply Drawn0.step)⟩
     ·rw [if_neg c6] at H
      have c6b0 : (a0.toList == ([110, 111, 116, 105, 102, 121] : List UInt8)) = false := beq_eq_false_iff_ne.mpr c6
      have c6b1 : (a0.toList != ([110, 111, 116, 105, 102, 121] : List UInt8)) = true := bne_iff_ne.mpr c6
      by_cases c7 : a0.toList = ([116, 114, 97, 99, 101] : List UInt8)
      ·rw [if_pos c7] at H
       have c7b0 : (a0.toList == ([116, 114, 97, 99, 101] : List UInt8)) = true := beq_iff_eq.mpr c7
       have c7b1 : (a0.toList != ([116, 114, 97, 99, 101] : List UInt8)) = false := bne_eq_false_iff_eq.mpr c7
       clear c7
       obtain rfl := Option.some.inj H
       go_enter Try.func32, Try.ntmps32
       go_wp2
       go_ret
       exact ⟨by first | rfl | (simp; done) | (simp [*]; done), by repeat (first | exact Drawn0.refl _ | apply Drawn0.step)⟩
      ·rw [if_neg c7] at H
       have c7b0 : (a0.toList == ([116, 114, 97, 99, 101] : List UInt8)) = false := beq_eq_false_iff_ne.mpr c7
       have c7b1 : (a0.toList != ([116, 114, 97, 99, 101] : List UInt8)) = true := bne_iff_ne.mpr c7
       by_cases c8 : a0.toList = ([108, 111, 103] : List UInt8)
       ·rw [if_pos c8] at H
        have c8b0 : (a0.toList == ([108, 111, 103] : List UInt8)) = true := beq_iff_eq.mpr c8
        have c8b1 : (a0.toList != ([108, 111, 103] : List UInt8)) = false := bne_eq_false_iff_eq.mpr c8
        clear c8
        obtain rfl := Option.some.inj H
        go_enter Try.func32, Try.ntmps32
        go_wp2
        go_ret
        exact ⟨by first | rfl | (simp; done) | (simp [*]; done), by repeat (first | exact Drawn0.refl _ | apply Drawn0.step)⟩
       ·rw [if_neg c8] at H
        have c8b0 : (a0.toList == ([108, 111, 103] : List UInt8)) = false := beq_eq_false_iff_ne.mpr c8
        have c8b1 : (a0.toList != ([108, 111, 103] : List UInt8)) = true := bne_iff_ne.mpr c8
        by_cases c9 : a0.toList = ([97, 108, 108, 111, 119] : List UInt8)
        ·rw [if_pos c9] at H
         have c9b0 : (a0.toList == ([97, 108, 108, 111, 119] : List UInt8)) = true := beq_iff_eq.mpr c9
         have c9b1 : (a0.toList != ([97, 108, 108, 111, 119] : List UInt8)) = false := bne_eq_false_iff_eq.mpr c9
         clear c9
         obtain rfl := Option.some.inj H
         go_enter Try.func32, Try.ntmps32
         go_wp2
         go_ret
         exact ⟨by first | rfl | (simp; done) | (simp [*]; done), by repeat (first | exact Drawn0.refl _ | apply Drawn0.step)⟩
        ·rw [if_neg c9] at H
         have c9b0 : (a0.toList == ([97, 108, 108, 111, 119] : List UInt8)) = false := beq_eq_false_iff_ne.mpr c9
         have c9b1 : (a0.toList != ([97, 108, 108, 111, 119] : List UInt8)) = true := bne_iff_ne.mpr c9
         obtain rfl := Option.some.inj H
         go_enter Try.func32, Try.ntmps32
         go_wp2
         go_ret
         exact ⟨by first | rfl | (simp; done) | (simp [*]; done), by repeat (first | exact Drawn0.refl _ | apply Drawn0.step)⟩
-- HAND rounds=False making=True
open Mine
/-- What a reader's call comes to: a result, or a panic with what is wrong, and where. -/
inductive PRes (α : Type) | ok (v : α) | bad (e at_ : Int)
/-- How it ends. -/
def prOut {α : Type} (w0 w : World) (g : Nat) (L : List S39) (val : α → Value) (nx : α → Int) (res : PRes α) (e : Ending) (w' : World) : Prop := One g w w' ∧ match res with | .ok v => e = .returned (val v) ∧ IsRd w0 w' g L (nx v) | .bad er at_ => e = prPanic er at_
def parse_must.f (L : List S39) (n kind : Int) : Option (PRes (S39 × Int)) := if 0 ≤ n ∧ n < (L.length : Int) then (if (rd_T39 L n).f0 = kind then some (.ok ((rd_T39 L n), wrap64 (n + 1))) else some (.bad 7 (rd_T39 L n).f1)) else none
def tkVal (t : S39) : Value := .agg #[.int .i64 t.f0, .int .i64 t.f1, .string t.f2, .int .u64 t.f3]
set_option maxHeartbeats 8000000 in
set_option maxRecDepth 100000 in
theorem parse_reader_must.calls (g : Nat) (L : List S39) (n kind : Int) (res : PRes (S39 × Int)) (w0 w : World) (h : IsRd w0 w g L n) (H : parse_must.f L n kind = some res) :
  Calls Try.prog 33 #[.pointer (some ⟨g, 0, none⟩), .int .i64 kind] w (prOut w0 w g L (fun v => tkVal v.1) (fun v => v.2) res) := by
 have hu := Try.underlying39
 have hL := am h
 have HO := am (One.refl g w)
 clear h
 unfold parse_must.f at H
 by_cases hn : 0 ≤ n ∧ n < (L.length : Int)
 ·rw [if_pos hn] at H
  have h0 := hn.1
  have h1 := hn.2
  clear hn
  by_cases hk : (rd_T39 L n).f0 = kind
  ·rw [if_pos hk] at H
   obtain rfl := Option.some.inj H
   subst hk
   clear H
   go_enter Try.func33, Try.ntmps33
   go_wp2_with (first | ((with_reducible refine gate_dst (N := 4) rfl ?_); refine box_event rfl (N := 4) rfl (cs := #[.int .i64 0, .int .i64 0, .string ⟨#[]⟩, .int .u64 0]) (t := 39) (by first | (go_simp; done) | (go_simp; rfl)) ?_; intro gr hg wr hbox hb; have hLr := am (hL.out.below hb); have NG_gr := am (show gr ≠ g from by rw [hg]; exact Nat.ne_of_gt hL.out.lt); have HOr := am (HO.out.below hb); have GT_gr := am (show w.heap.size ≤ gr from by rw [hg]; exact HO.out.size); have GW_gr := am (show w0.heap.size ≤ gr from by rw [hg]; exact hL.out.w0.size); have BX_gr := am hbox; have n1_gr := NG_gr.out; have n2_gr := Ne.symm NG_gr.out; have r0 := (blk_cell hbox 0).trans rfl; have r1 := (blk_cell hbox 1).trans rfl; have r2 := (blk_cell hbox 2).trans rfl; have r3 := (blk_cell hbox 3).trans rfl; have rf0 := blk_frozen hbox 0; have rf1 := blk_frozen hbox 1; have rf2 := blk_frozen hbox 2; have rf3 := blk_frozen hbox 3; clear hbox hb hg) | (go_at_call 19; (refine (parse_reader_now.calls g L n w0 _ hLr.out h0 h1).mono ?_); rintro e w1 ⟨rfl, hb⟩; have HO1 := am (HOr.out.below hb); have hL1 := am (hLr.out.below hb); have BR1 := am (blk_below BX_gr.out hb); clear hb r0 r1 r2 r3 rf0 rf1 rf2 rf3) | ((with_reducible refine gate_dst (N := 5) rfl ?_); refine box_event rfl (N := 5) rfl (cs := #[.int .i64 0, .int .i64 0, .string ⟨#[]⟩, .int .u64 0]) (t := 39) (by first | (go_simp; done) | (go_simp; rfl)) ?_; intro gt hg w2 hbox hb; have hL2 := am (hL1.out.below hb); have NG_gt := am (show gt ≠ g from by rw [hg]; exact Nat.ne_of_gt hL1.out.lt); have NT := am (show gt ≠ gr from by rw [hg]; exact Nat.ne_of_gt (blk_lt BR1.out)); have HO2 := am (HO1.out.below hb); have GT_gt := am (show w.heap.size ≤ gt from by rw [hg]; exact HO1.out.size); have GW_gt := am (show w0.heap.size ≤ gt from by rw [hg]; exact hL1.out.w0.size); have BR2 := am (blk_below BR1.out hb); have s0 := (blk_cell hbox 0).trans rfl; have s1 := (blk_cell hbox 1).trans rfl; have s2 := (blk_cell hbox 2).trans rfl; have s3 := (blk_cell hbox 3).trans rfl; have sf0 := blk_frozen hbox 0; have sf1 := blk_frozen hbox 1; have sf2 := blk_frozen hbox 2; have sf3 := blk_frozen hbox 3; have r0 := (blk_cell BR2.out 0).trans rfl; have r1 := (blk_cell BR2.out 1).trans rfl; have r2 := (blk_cell BR2.out 2).trans rfl; have r3 := (blk_cell BR2.out 3).trans rfl; have rf0 := blk_frozen BR2.out 0; have rf1 := blk_frozen BR2.out 1; have rf2 := blk_frozen BR2.out 2; have rf3 := blk_frozen BR2.out 3; have q1 := hL2.out.c1; have q2 := hL2.out.fr 1; have n1_gt := NG_gt.out; have n2_gt := Ne.symm NG_gt.out; have n3_gt := NT.out; have n4_gt := Ne.symm NT.out; clear hbox hb hg))
   refine bodyPost_ret (results_cell_row rfl _ _ gr 39 (#[.int .i64 (rd_T39 L n).f0, .int .i64 (rd_T39 L n).f1, .string (rd_T39 L n).f2, .int .u64 (rd_T39 L n).f3]) (0, 0) _ rfl (blk_put4 (blk_far (blk_far4 BR2.out (Ne.symm NT.out) _ _ _ _) NG_gr.out _) _ _ _ _) hu rfl (by kernel_rfl)) rfl ?_
   exact ⟨((HO2.out.put4 GT_gt.out _ _ _ _).setCell _ _).put4 GT_gr.out _ _ _ _, rfl, ((hL2.out.far4 NG_gt.out GW_gt.out _ _ _ _).set _).far4 NG_gr.out GW_gr.out _ _ _ _⟩
  ·rw [if_neg hk] at H
   obtain rfl := Option.some.inj H
   have hk0 := beq_eq_false_iff_ne.mpr hk
   have hk1 := bne_iff_ne.mpr hk
   clear H hk
   go_enter Try.func33, Try.ntmps33
   go_wp2_with (first | ((with_reducible refine gate_dst (N := 4) rfl ?_); refine box_event rfl (N := 4) rfl (cs := #[.int .i64 0, .int .i64 0, .string ⟨#[]⟩, .int .u64 0]) (t := 39) (by first | (go_simp; done) | (go_simp; rfl)) ?_; intro gr hg wr hbox hb; have hLr := am (hL.out.below hb); have NG_gr := am (show gr ≠ g from by rw [hg]; exact Nat.ne_of_gt hL.out.lt); have HOr := am (HO.out.below hb); have GT_gr := am (show w.heap.size ≤ gr from by rw [hg]; exact HO.out.size); have GW_gr := am (show w0.heap.size ≤ gr from by rw [hg]; exact hL.out.w0.size); have BX_gr := am hbox; have n1_gr := NG_gr.out; have n2_gr := Ne.symm NG_gr.out; have r0 := (blk_cell hbox 0).trans rfl; have r1 := (blk_cell hbox 1).trans rfl; have r2 := (blk_cell hbox 2).trans rfl; have r3 := (blk_cell hbox 3).trans rfl; have rf0 := blk_frozen hbox 0; have rf1 := blk_frozen hbox 1; have rf2 := blk_frozen hbox 2; have rf3 := blk_frozen hbox 3; clear hbox hb hg) | (go_at_call 19; (refine (parse_reader_now.calls g L n w0 _ hLr.out h0 h1).mono ?_); rintro e w1 ⟨rfl, hb⟩; have HO1 := am (HOr.out.below hb); have hL1 := am (hLr.out.below hb); have BR1 := am (blk_below BX_gr.out hb); clear hb r0 r1 r2 r3 rf0 rf1 rf2 rf3) | ((with_reducible refine gate_dst (N := 5) rfl ?_); refine box_event rfl (N := 5) rfl (cs := #[.int .i64 0, .int .i64 0, .string ⟨#[]⟩, .int .u64 0]) (t := 39) (by first | (go_simp; done) | (go_simp; rfl)) ?_; intro gt hg w2 hbox hb; have hL2 := am (hL1.out.below hb); have NG_gt := am (show gt ≠ g from by rw [hg]; exact Nat.ne_of_gt hL1.out.lt); have NT := am (show gt ≠ gr from by rw [hg]; exact Nat.ne_of_gt (blk_lt BR1.out)); have HO2 := am (HO1.out.below hb); have GT_gt := am (show w.heap.size ≤ gt from by rw [hg]; exact HO1.out.size); have GW_gt := am (show w0.heap.size ≤ gt from by rw [hg]; exact hL1.out.w0.size); have BR2 := am (blk_below BR1.out hb); have s0 := (blk_cell hbox 0).trans rfl; have s1 := (blk_cell hbox 1).trans rfl; have s2 := (blk_cell hbox 2).trans rfl; have s3 := (blk_cell hbox 3).trans rfl; have sf0 := blk_frozen hbox 0; have sf1 := blk_frozen hbox 1; have sf2 := blk_frozen hbox 2; have sf3 := blk_frozen hbox 3; have r0 := (blk_cell BR2.out 0).trans rfl; have r1 := (blk_cell BR2.out 1).trans rfl; have r2 := (blk_cell BR2.out 2).trans rfl; have r3 := (blk_cell BR2.out 3).trans rfl; have rf0 := blk_frozen BR2.out 0; have rf1 := blk_frozen BR2.out 1; have rf2 := blk_frozen BR2.out 2; have rf3 := blk_frozen BR2.out 3; have q1 := hL2.out.c1; have q2 := hL2.out.fr 1; have n1_gt := NG_gt.out; have n2_gt := Ne.symm NG_gt.out; have n3_gt := NT.out; have n4_gt := Ne.symm NT.out; clear hbox hb hg) | (go_at_call 17; (refine (parse_reader_fail.calls g L n 7 w0 _ (hL2.out.far4 NG_gt.out GW_gt.out _ _ _ _) h0 h1).mono ?_); rintro e w9 ⟨he, hb⟩; obtain rfl : e = .panicked [{ v := .iface 48 (.agg #[.int .i64 7, .int .i64 (rd_T39 L n).f1]), recovered := false }] := he; have HF := am ((HO2.out.put4 GT_gt.out _ _ _ _).below hb); clear hb))
   exact ⟨rfl, HF.out, rfl⟩
 ·rw [if_neg hn] at H; cases H
end Go.Proofs.Ytfahchgglapglaa.M
