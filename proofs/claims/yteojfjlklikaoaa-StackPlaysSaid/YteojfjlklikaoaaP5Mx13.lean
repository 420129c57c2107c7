-- Laid by a program (wip/tools/myprint.py) out of the loaded program's own print: for each Go function a Lean function and the proof of its contract.
import Derived.Test.YteojfjlklikaoaaP5Mx0
import Derived.Test.YteojfjlklikaoaaP5Mx9
import Derived.Test.YteojfjlklikaoaaP5Mx12
namespace Go.Proofs.Yteojfjlklikaoaa.M
open Go.RowKit Go.Proofs.YteojfjlklikaoaaW.PrintWords Go.Proofs.YteojfjlklikaoaaW.PrintLast Go.Proofs.YteojfjlklikaoaaW.PrintMore
attribute [local go_sem] max2_int min2_int max_two min_two max_three min_three max_four min_four   -- for this text's walks alone
set_option linter.unusedVariables false
set_option linter.unusedSimpArgs false
-- HAND rounds=True making=True
def fairleadref06_Run.l0 : Nat → List S53 → Int → Int → Int → Int → Int → Int → Int → Int → Int → Int → Int → Int → StS → Option (Int × Int × Int)
  | 0, _, _, _, _, _, _, _, _, _, _, _, _, _, _ => none
  | k + 1, l, c, d0, d1, d2, d3, d4, d5, d6, d7, d8, T, n, s => if c ≤ (l.length : Int) then (if s.o = true then some (s.r, n, 0) else if 0 ≤ T ∧ T < (l.length : Int) then (fairleadref06_Step.g k (rd_T53 l T).f0 (rd_T53 l T).f1 (rd_T53 l T).f2 (rd_T53 l T).f3 d0 d1 d2 d3 d4 d5 d6 d7 d8 (wrap64 (T + 1)) s).bind fun p => fairleadref06_Run.l0 k l (wrap64 (c + 1)) d0 d1 d2 d3 d4 d5 d6 d7 d8 p.1 (wrap64 (n + 1)) p.2 else none) else some (s.r, n, 0)
def fairleadref06_Run.f (k : Nat) (l : List S53) (d0 d1 d2 d3 d4 d5 d6 d7 d8 : Int) : Option (Int × Int × Int) := (fairleadref05_Check.f k l).bind fun t => if t.1 = 0 then fairleadref06_Run.l0 k l 0 d0 d1 d2 d3 d4 d5 d6 d7 d8 0 0 ⟨0, 0, false, 0, fun _ => 0⟩ else some (0, 0, t.1)
/-- The blocks of a run. -/
structure RunB (w0 w : World) (gd gs : Nat) (D S : Array Value) : Prop where
  bd : w.heap[gd]? = some (.cells D 27 (0, 0))
  bs : w.heap[gs]? = some (.cells S 73 (0, 0))
  below : Below w0.heap.size w0 w
  gs0 : w0.heap.size ≤ gs
  sd : gs ≠ gd
theorem RunB.call {w0 w w' : World} {gd gs : Nat} {D S : Array Value} (h : RunB w0 w gd gs D S) (hb : Below w.heap.size w w') : RunB w0 w' gd gs D S :=
  ⟨blk_below h.bd hb, blk_below h.bs hb, below_step h.below hb, h.gs0, h.sd⟩
theorem RunB.row {w0 w : World} {gd gs : Nat} {D S : Array Value} (h : RunB w0 w gd gs D S) (S' : Array Value) (hl : S.size = S'.size) : RunB w0 (w.setRow gs S') gd gs D S' :=
  ⟨(setRow_other w gs gd S' (Ne.symm h.sd)).trans h.bd, setRow_heap w gs S S' 73 (0, 0) h.bs, step_setRow h.below h.gs0 S', h.gs0, h.sd⟩
set_option maxHeartbeats 8000000 in
set_option maxRecDepth 100000 in
theorem fairleadref06_Run.calls (k : Nat) (A0 : Option Addr) (c0 : Nat) (l0 : List S53) (d0 d1 d2 d3 d4 d5 d6 d7 d8 : Int) (r1 : Int) (r2 : Int) (r3 : Int) (w : World) (hr0 : Kd.C k53 w A0 l0.length l0) (hc0 : l0.length ≤ c0) (h : fairleadref06_Run.f k l0 d0 d1 d2 d3 d4 d5 d6 d7 d8 = some (r1, r2, r3)) :
  Calls Try.prog 25 #[.slice A0 l0.length c0, .agg #[.int .u32 d0, .int .u32 d1, .int .u64 d2, .int .u64 d3, .int .u64 d4, .int .u64 d5, .int .u64 d6, .int .u64 d7, .int .u64 d8]] w fun e w' => e = .returned (.tuple #[.int .u32 r1, .int .i64 r2, .int .i64 r3]) ∧ Below w.heap.size w w' := by
  have hu27_ := Try.underlying27
  have hu56_ := Try.underlying73
  have HR0 := Aside0.mk hr0
  have HC0 := Aside0.mk hc0
  clear hr0 hc0
  obtain ⟨⟨t1, t2⟩, A30, H⟩ := Option.bind_eq_some_iff.mp h
  have A3 := Aside0.mk A30
  clear A30 h
  by_cases c4 : t1 = 0
  · replace H := (if_pos c4).symm.trans H
    have c4b0 : (t1 == 0) = true := beq_iff_eq.mpr c4
    have c4b1 : (t1 != 0) = false := bne_eq_false_iff_eq.mpr c4
    clear c4
    have H' := Aside0.mk H
    clear H
    go_enter Try.func25, Try.ntmps25
    go_wp2_with (first | ((with_reducible refine gate_dst (N := 3) rfl ?_); refine box_event ?hg (N := 3) ?hd (cs := #[.int .u32 d0, .int .u32 d1, .int .u64 d2, .int .u64 d3, .int .u64 d4, .int .u64 d5, .int .u64 d6, .int .u64 d7, .int .u64 d8]) (t := 27) ?hr ?_; (case hd => rfl); (case hg => rfl); (case hr => first | (go_simp; done) | (go_simp; rfl)); intro gd hg w1 hbox hb; have GD := Aside0.mk hg; have B1 := Aside0.mk hbox; have W1 := Aside0.mk hb; clear hg hbox hb) | ((go_at_call 23; (refine (fairleadref05_Check.calls k _ _ l0 t1 t2 _ (Kd.C_below HR0.out W1.out) HC0.out A3.out).mono ?_); rintro e w2 ⟨rfl, hb⟩; have W2 := Aside0.mk hb; clear hb)) | ((with_reducible refine gate_dst (N := 9) rfl ?_); refine box_event ?hg (N := 9) ?hd (cs := #[.int .i64 0, .int .i64 0, .int .u32 0, .int .u32 0, .int .u32 0, .int .u32 0, .int .u32 0, .int .u32 0, .int .u32 0, .int .u32 0, .int .u32 0, .int .u32 0, .int .u32 0, .int .u32 0, .int .u32 0, .int .u32 0, .int .u32 0, .int .u32 0, .int .u32 0, .int .u32 0, .bool false, .int .u32 0]) (t := 73) ?hr ?_; (case hd => rfl); (case hg => rfl); (case hr => first | (go_simp; done) | (go_simp; rfl)); intro gs hg w3 hbox hb; have hE : Aside0 (RunB w w3 gd gs #[.int .u32 d0, .int .u32 d1, .int .u64 d2, .int .u64 d3, .int .u64 d4, .int .u64 d5, .int .u64 d6, .int .u64 d7, .int .u64 d8] #[.int .i64 0, .int .i64 0, .int .u32 0, .int .u32 0, .int .u32 0, .int .u32 0, .int .u32 0, .int .u32 0, .int .u32 0, .int .u32 0, .int .u32 0, .int .u32 0, .int .u32 0, .int .u32 0, .int .u32 0, .int .u32 0, .int .u32 0, .int .u32 0, .int .u32 0, .int .u32 0, .bool false, .int .u32 0]) := ⟨⟨blk_below (blk_below B1.out W2.out) hb, hbox, below_step (below_step (below_step (Below.refl w.heap.size w) W1.out) W2.out) hb, by rw [hg]; exact Nat.le_trans W1.out.size W2.out.size, by rw [hg]; exact Nat.ne_of_gt (blk_lt (blk_below B1.out W2.out))⟩⟩; clear hg hbox hb) | ((with_reducible refine gate_store (t := 73) (p := 9) rfl ?_); refine wpList_store_row rfl 73 (.tmp 9) (.tmp 19) rfl gs (#[.int .i64 0, .int .i64 0, .int .u32 0, .int .u32 0, .int .u32 0, .int .u32 0, .int .u32 0, .int .u32 0, .int .u32 0, .int .u32 0, .int .u32 0, .int .u32 0, .int .u32 0, .int .u32 0, .int .u32 0, .int .u32 0, .int .u32 0, .int .u32 0, .int .u32 0, .int .u32 0, .bool false, .int .u32 0]) rfl rfl 73 _ (hE).out.bs (by kernel_rfl) rfl (by simp [Value.oneCell']) ?_; have hE2 := Aside0.mk (hE.out.row #[.int .i64 0, .int .i64 0, .int .u32 0, .int .u32 0, .int .u32 0, .int .u32 0, .int .u32 0, .int .u32 0, .int .u32 0, .int .u32 0, .int .u32 0, .int .u32 0, .int .u32 0, .int .u32 0, .int .u32 0, .int .u32 0, .int .u32 0, .int .u32 0, .int .u32 0, .int .u32 0, .bool false, .int .u32 0] rfl); clear hE))
    go_loopg [10] k (fun kq v10 w' => ∃ (c T n : Int) (s : StS), v10 = .int .i64 c ∧ Aside0 (fairleadref06_Run.l0 kq l0 c d0 d1 d2 d3 d4 d5 d6 d7 d8 T n s = some (r1, r2, r3)) ∧ Aside0 (RunB w w' gd gs #[.int .u32 d0, .int .u32 d1, .int .u64 d2, .int .u64 d3, .int .u64 d4, .int .u64 d5, .int .u64 d6, .int .u64 d7, .int .u64 d8] (stA T n s)))
    case atStart => exact ⟨0, 0, 0, ⟨0, 0, false, 0, fun _ => 0⟩, rfl, H', hE2⟩
    case round =>
      clear H' hE2 W1 W2 B1 GD
      obtain ⟨c, T, n, s, rfl, HA, hR⟩ := hrel
      cases gk with
      | zero => exact absurd HA.out (by simp [fairleadref06_Run.l0])
      | succ k1 =>
        have H := HA.out
        clear HA
        simp only [fairleadref06_Run.l0] at H
        have q1 := (blk_cell hR.out.bs 1).trans (show _ = some (.int .i64 n : Value) from rfl)
        have q20 := (blk_cell hR.out.bs 20).trans (show _ = some (.bool s.o : Value) from rfl)
        have q21 := (blk_cell hR.out.bs 21).trans (show _ = some (.int .u32 s.r : Value) from rfl)
        by_cases hc : c ≤ (l0.length : Int)
        · rw [if_pos hc] at H
          have hc1 := decide_eq_true hc
          clear hc
          by_cases ho : s.o = true
          · rw [if_pos ho] at H
            rw [ho] at q20
            simp only [Option.some.injEq, Prod.mk.injEq] at H
            obtain ⟨rfl, rfl, rfl⟩ := H
            clear ho
            go_wp2
            go_region_held3 (fun w' => w'.cell? ⟨gs, 21, none⟩ = some (.int .u32 s.r) ∧ w'.cell? ⟨gs, 1, none⟩ = some (.int .i64 n)) (first | go_keep | exact ⟨q21, q1⟩) (fail)
            go_wp2
            go_ret3
            exact ⟨rfl, hR.out.below.trans (below_drew1 (Below.refl _ _))⟩
          · rw [if_neg ho] at H
            have ho2 : s.o = false := by simpa using ho
            rw [ho2] at q20
            clear ho ho2
            by_cases hT : 0 ≤ T ∧ T < (l0.length : Int)
            · rw [if_pos hT] at H
              obtain ⟨⟨T2, s2⟩, A4, H⟩ := Option.bind_eq_some_iff.mp H
              have A4 := Aside0.mk A4
              have H' := Aside0.mk H
              have hT0 := Aside0.mk hT.1
              have hT1 := Aside0.mk hT.2
              clear H hT
              go_wp2_with (first | ((with_reducible refine gate_dst (N := 32) rfl ?_); refine wpList_load_row rfl 27 (.tmp 3) rfl gd rfl 27 (#[.int .u32 d0, .int .u32 d1, .int .u64 d2, .int .u64 d3, .int .u64 d4, .int .u64 d5, .int .u64 d6, .int .u64 d7, .int .u64 d8]) (0, 0) _ hR.out.bd Try.underlying27 rfl (by kernel_rfl) ?_) | ((with_reducible refine gate_dst (N := 33) rfl ?_); refine wpList_load_row rfl 73 (.tmp 9) rfl gs rfl 73 (stA T n s) (0, 0) _ hR.out.bs Try.underlying73 rfl (by kernel_rfl) ?_) | ((go_at_call 35; (refine (fairleadref06_Step.gcalls k1 _ _ l0 d0 d1 d2 d3 d4 d5 d6 d7 d8 T n _ _ _ _ s T2 s2 _ (Kd.C_below HR0.out hR.out.below) HC0.out hT0.out hT1.out rfl A4.out).mono ?_); rintro e w4 ⟨rfl, hb⟩; have hR2 := Aside0.mk (hR.out.call hb); clear hb hR q1 q20 q21)) | ((with_reducible refine gate_store (t := 73) (p := 9) rfl ?_); refine wpList_store_row rfl 73 (.tmp 9) (.tmp 34) rfl gs (stA T2 (wrap64 (n + 1)) s2) rfl rfl 73 _ hR2.out.bs (by kernel_rfl) rfl (stA_one _ _ _) ?_; have hR3 := Aside0.mk (hR2.out.row (stA T2 (wrap64 (n + 1)) s2) rfl); clear hR2))
              go_roundg k1
              case measure => omega
              case rel => exact ⟨wrap64 (c + 1), T2, wrap64 (n + 1), s2, by first | rfl | (simp only [i64_w]), H', hR3⟩
            · rw [if_neg hT] at H; cases H
        · rw [if_neg hc] at H
          have hc1 := decide_eq_false hc
          clear hc
          simp only [Option.some.injEq, Prod.mk.injEq] at H
          obtain ⟨rfl, rfl, rfl⟩ := H
          go_wp2
          go_region_held3 (fun w' => w'.cell? ⟨gs, 21, none⟩ = some (.int .u32 s.r) ∧ w'.cell? ⟨gs, 1, none⟩ = some (.int .i64 n)) (first | go_keep | exact ⟨q21, q1⟩) (fail)
          go_wp2
          go_ret3
          exact ⟨rfl, hR.out.below.trans (below_drew1 (Below.refl _ _))⟩
  · replace H := (if_neg c4).symm.trans H
    have c4b0 : (t1 == 0) = false := beq_eq_false_iff_ne.mpr c4
    have c4b1 : (t1 != 0) = true := bne_iff_ne.mpr c4
    clear c4
    simp only [Option.some.injEq, Prod.mk.injEq] at H
    obtain ⟨rfl, rfl, rfl⟩ := H
    go_enter Try.func25, Try.ntmps25
    go_wp2_with (first | ((with_reducible refine gate_dst (N := 3) rfl ?_); refine box_event ?hg (N := 3) ?hd (cs := #[.int .u32 d0, .int .u32 d1, .int .u64 d2, .int .u64 d3, .int .u64 d4, .int .u64 d5, .int .u64 d6, .int .u64 d7, .int .u64 d8]) (t := 27) ?hr ?_; (case hd => rfl); (case hg => rfl); (case hr => first | (go_simp; done) | (go_simp; rfl)); intro gd hg w1 hbox hb; have GD := Aside0.mk hg; have B1 := Aside0.mk hbox; have W1 := Aside0.mk hb; clear hg hbox hb) | ((go_at_call 23; (refine (fairleadref05_Check.calls k _ _ l0 t1 t2 _ (Kd.C_below HR0.out W1.out) HC0.out A3.out).mono ?_); rintro e w2 ⟨rfl, hb⟩; have W2 := Aside0.mk hb; clear hb)))
    go_ret3
    exact ⟨rfl, below_step (below_step (Below.refl w.heap.size w) W1.out) W2.out⟩
def fairleadref07_numbers.f  : Option (List Int) := some (([2147483648, 0, 196608, 327680, 2143289344, 2146435072, 2147221504, 2147418112] : List Int))
set_option maxHeartbeats 8000000 in
set_option maxRecDepth 100000 in
theorem fairleadref07_numbers.calls  (r : List Int) (w : World) (h : fairleadref07_numbers.f  = some r) :
    Calls Try.prog 31 #[] w fun e w' => ∃ v0_ : Value, e = .returned (v0_) ∧ Kd.R (Kd.int .u32) 23 w' w.heap.size (fun _ => True) v0_ r ∧ Below w.heap.size w w' := by
  have HB := Aside0.mk (Below.refl w.heap.size w)
  have H : (some (([2147483648, 0, 196608, 327680, 2143289344, 2146435072, 2147221504, 2147418112] : List Int))) = some r := h
  clear h
  obtain ⟨y245, hy245⟩ : ∃ y_ : List Int, y_ = (([2147483648, 0, 196608, 327680, 2143289344, 2146435072, 2147221504, 2147418112] : List Int)) := ⟨_, rfl⟩
  replace H : (some y245) = some r := by first | (rw [hy245]; with_reducible exact H) | (have H2_ := (Option.bind_some _ _).symm.trans H; rw [hy245]; with_reducible exact H2_) | (have H2_ := (Option.bind_some _ _).symm.trans H; with_reducible exact H2_) | with_reducible exact H | (rw [hy245]; exact H) | exact H
  have Ny245 := Aside0.mk hy245
  clear hy245
  obtain rfl := Option.some.inj H
  go_enter Try.func31, Try.ntmps31
  go_wp2_with (first | ((with_reducible refine gate_dst (N := 1) rfl ?_); refine Kd.R_lit (Kd.int .u32) _ 23 ?hg (N := 1) ?hd (xs := ([2147483648, 0, 196608, 327680, 2143289344, 2146435072, 2147221504, 2147418112] : List Int)) (inner := [.int .u32 2147483648, .int .u32 0, .int .u32 196608, .int .u32 327680, .int .u32 2143289344, .int .u32 2146435072, .int .u32 2147221504, .int .u32 2147418112]) (ok := fun _ => True) (okp := fun _ => True) ?hr ?hp (fun _ hk => hk) trivial (Below.refl _ _) (Nat.le_refl _) (by simp) ?_; (case hd => rfl); (case hg => rfl); (case hr => first | (go_simp; done) | (go_simp; rfl)); (case hp => exact (Reps.one (show Kd.M (Kd.int .u32) _ _ _ 2147483648 [.int .u32 2147483648] from rfl) (Reps.one (show Kd.M (Kd.int .u32) _ _ _ 0 [.int .u32 0] from rfl) (Reps.one (show Kd.M (Kd.int .u32) _ _ _ 196608 [.int .u32 196608] from rfl) (Reps.one (show Kd.M (Kd.int .u32) _ _ _ 327680 [.int .u32 327680] from rfl) (Reps.one (show Kd.M (Kd.int .u32) _ _ _ 2143289344 [.int .u32 2143289344] from rfl) (Reps.one (show Kd.M (Kd.int .u32) _ _ _ 2146435072 [.int .u32 2146435072] from rfl) (Reps.one (show Kd.M (Kd.int .u32) _ _ _ 2147221504 [.int .u32 2147221504] from rfl) (Reps.one (show Kd.M (Kd.int .u32) _ _ _ 2147418112 [.int .u32 2147418112] from rfl) (Reps.none _ _)))))))))); intro v246 w1 ho2 hb hg_ hnew_; clear hg_ hnew_; (first | rw [← Ny245.out] at ho2 | (simp only [Int.reduceToNat] at ho2; rw [← Ny245.out] at ho2)); have n0_ := Aside0.mk (Kd.R_lower ho2 (below_size (by repeat (first | (with_reducible first | exact HB.out | apply below_alloc | apply pw_below_drewN | apply below_drew1) | exact HB.out)))); have n1_ := Aside0.mk (below_step (by repeat (first | (with_reducible first | exact HB.out | apply below_alloc | apply pw_below_drewN | apply below_drew1) | exact HB.out)) hb); clear HB; have HO247 := n0_; have HB := n1_; clear n0_ n1_; clear hb ho2))
  go_ret
  exact ⟨_, by first | rfl | (simp [errW_none, errW_some] <;> rfl) | (simp [*, errW_none, errW_some] <;> rfl), by (with_reducible repeat (first | apply Kd.R_alloc | apply Kd.R_drewN | apply Kd.R_drew)); exact HO247.out, by repeat (first | (with_reducible first | exact HB.out | apply below_alloc | apply pw_below_drewN | apply below_drew1) | exact HB.out)⟩
def fairleadref07_has.f (a0 : Int) : Option (Bool) := if a0 = 3 then (some true) else (if a0 = 4 then (some true) else (some (a0 == 6)))
set_option maxHeartbeats 8000000 in
set_option maxRecDepth 100000 in
theorem fairleadref07_has.calls (a0 : Int) (r : Bool) (w : World) (h : fairleadref07_has.f a0 = some r) :
    Calls Try.prog 32 #[.int .i64 a0] w fun e w' => e = .returned (.bool r) ∧ Drawn0 w w' := by
  have H : (if a0 = 3 then (some true) else (if a0 = 4 then (some true) else (some (a0 == 6)))) = some r := h
  clear h
  by_cases c2 : a0 = 3
  · rw [if_pos c2] at H
    have c2b0 : (a0 == 3) = true := beq_iff_eq.mpr c2
    have c2b1 : (a0 != 3) = false := bne_eq_false_iff_eq.mpr c2
    clear c2
    obtain rfl := Option.some.inj H
    go_enter Try.func32, Try.ntmps32
    go_wp2
    go_ret
    exact ⟨by first | rfl | (simp; done) | (simp [*]; done), by repeat (first | exact Drawn0.refl _ | apply Drawn0.step)⟩
  · rw [if_neg c2] at H
    have c2b0 : (a0 == 3) = false := beq_eq_false_iff_ne.mpr c2
    have c2b1 : (a0 != 3) = true := bne_iff_ne.mpr c2
    by_cases c3 : a0 = 4
    · rw [if_pos c3] at H
      have c3b0 : (a0 == 4) = true := beq_iff_eq.mpr c3
      have c3b1 : (a0 != 4) = false := bne_eq_false_iff_eq.mpr c3
      clear c3
      obtain rfl := Option.some.inj H
      go_enter Try.func32, Try.ntmps32
      go_wp2
      go_ret
      exact ⟨by first | rfl | (simp; done) | (simp [*]; done), by repeat (first | exact Drawn0.refl _ | apply Drawn0.step)⟩
    · rw [if_neg c3] at H
      have c3b0 : (a0 == 4) = false := beq_eq_false_iff_ne.mpr c3
      have c3b1 : (a0 != 4) = true := bne_iff_ne.mpr c3
      obtain rfl := Option.some.inj H
      go_enter Try.func32, Try.ntmps32
      go_wp2
      go_ret
      exact ⟨by first | rfl | (simp; done) | (simp [*]; done), by repeat (first | exact Drawn0.refl _ | apply Drawn0.step)⟩
def fairleadref07_Of.l0 : Nat → Int → List Int → Int → Option (Int × Int)
  | 0, _, _, _ => none
  | k + 1, x0, x3, x4 => if x4 < (x3.length : Int) then (if 0 ≤ x4 then (if (rd x3 x4) = ((((Int.tdiv x0 65536) % 4294967296) * 65536) % 4294967296) then ((fairleadref07_has.f (wrap64 (x4 + 1))).bind fun t253 => (if t253 = true then (some (wrap64 (x4 + 1), wrap64 (Int.tmod x0 65536))) else (some (wrap64 (x4 + 1), 0)))) else (fairleadref07_Of.l0 k x0 x3 (wrap64 (x4 + 1)))) else (none)) else (some (1, 0))
def fairleadref07_Of.f (k : Nat) (a0 : Int) : Option (Int × Int) := (fairleadref07_numbers.f).bind fun t249 => (fairleadref07_Of.l0 k a0 t249 0)
set_option maxHeartbeats 8000000 in
set_option maxRecDepth 100000 in
theorem fairleadref07_Of.calls (k : Nat) (a0 : Int) (r1 : Int) (r2 : Int) (w : World) (h : fairleadref07_Of.f k a0 = some (r1, r2)) :
    Calls Try.prog 20 #[.int .u32 a0] w fun e w' => e = .returned (.agg #[.int .i64 r1, .int .i64 r2]) ∧ Below w.heap.size w w' := by
  have hu46 := Try.underlying46
  have HB := Aside0.mk (Below.refl w.heap.size w)
  have H : ((fairleadref07_numbers.f).bind fun t249 => (fairleadref07_Of.l0 k a0 t249 0)) = some (r1, r2) := h
  clear h
  replace H := Option.bind_eq_some_iff.mp H
  obtain ⟨t249, A20, H⟩ := H
  replace H : (fairleadref07_Of.l0 k a0 t249 0) = some (r1, r2) := H
  have A2 := Aside0.mk A20
  clear A20
  have H' := Aside0.mk H
  clear H
  go_enter Try.func20, Try.ntmps20
  go_wp2_with (first | ((with_reducible refine gate_dst (N := 2) rfl ?_); refine box_event ?hg (N := 2) ?hd (cs := #[.int .i64 0, .int .i64 0]) (t := 46) ?hr ?_; (case hd => rfl); (case hg => rfl); (case hr => first | (go_simp; done) | (go_simp; rfl)); intro gb248 hg w3 hbox hb; have n0_ := Aside0.mk (below_step (by repeat (first | (with_reducible first | exact HB.out | apply below_alloc | apply pw_below_drewN | apply below_drew1) | exact HB.out)) hb); have n1_ := Aside0.mk (hbox); have n2_ := Aside0.mk ((by rw [hg]; exact (below_size (by repeat (first | (with_reducible first | exact HB.out | apply below_alloc | apply pw_below_drewN | apply below_drew1) | exact HB.out))) : w.heap.size ≤ gb248)); have n3_ := Aside0.mk ((by rw [hg]; exact (below_size (by repeat (first | (with_reducible first | exact HB.out | apply below_alloc | apply pw_below_drewN | apply below_drew1) | exact HB.out))) : w.heap.size ≤ gb248)); clear HB; have HB := n0_; have BK248 := n1_; have GW248 := n2_; have GE248 := n3_; clear n0_ n1_ n2_ n3_; clear hb hbox hg) | ((with_reducible refine gate_callee (f := 31) rfl ?_); refine goesL_ (some 5) rfl rfl Try.func31 (by kernel_rfl) rfl #[] rfl (by (try simp only [List.map_toArray, List.map_cons, List.map_nil]); first | done | rfl | (simp only [List.length_drop, List.length_take]; rfl)) ?_; (with_reducible refine (fairleadref07_numbers.calls  t249 _ A2.out).mono ?_); rintro e w4 ⟨v250, rfl, ho0, hb⟩; refine ⟨_, rfl, ?_⟩; have n0_ := Aside0.mk (Kd.R_lower ho0 (below_size (by repeat (first | (with_reducible first | exact HB.out | apply below_alloc | apply pw_below_drewN | apply below_drew1 | refine below_set ?_ GE248.out) | exact HB.out)))); have n1_ := Aside0.mk (blk_below (g := gb248) (o := .cells #[.int .i64 0, .int .i64 0] 46 (0, 0)) (by (with_reducible repeat (first | refine blk_drewN ?_ _ | refine blk_drew ?_ | refine blk_alloc ?_ _)); exact BK248.out) hb); have n2_ := Aside0.mk (below_step (by repeat (first | (with_reducible first | exact HB.out | apply below_alloc | apply pw_below_drewN | apply below_drew1 | refine below_set ?_ GE248.out) | exact HB.out)) hb); clear BK248; clear HB; have HO251 := n0_; have BK248 := n1_; have HB := n2_; clear n0_ n1_ n2_; (try clear hb); (try clear hb2); (try clear hk); (try clear hi); (try clear ho0)))
  go_loopg [4] k (fun kq v4 w' => ∃ (x4_1 : Int) (Z0 : Int) (Z1 : Int), v4 = .int .i64 x4_1 ∧ Aside0 (fairleadref07_Of.l0 kq a0 t249 x4_1 = some (r1, r2)) ∧ Aside0 (kq ≤ k) ∧ Aside0 (Kd.R (Kd.int .u32) 23 w' w.heap.size (fun _ => True) v250 t249) ∧ Aside0 (w'.heap[gb248]? = some (.cells #[.int .i64 Z0, .int .i64 Z1] 46 (0, 0))) ∧ Aside0 (Below w.heap.size w w'))
  case atStart => exact ⟨(0), (0), (0), (by first | rfl | (simp; done) | (simp [*]; done)), H', ⟨Nat.le_refl _⟩, ⟨by (with_reducible repeat (first | apply Kd.R_alloc | apply Kd.R_drewN | apply Kd.R_drew)); exact HO251.out⟩, ⟨by (with_reducible repeat (first | refine blk_drewN ?_ _ | refine blk_drew ?_ | refine blk_alloc ?_ _)); exact BK248.out⟩, ⟨by repeat (first | (with_reducible first | exact HB.out | apply below_alloc | apply pw_below_drewN | apply below_drew1 | refine below_set ?_ GE248.out) | exact HB.out)⟩⟩
  case round =>
    clear H'
    try clear c2
    try clear p2
    try clear c3
    obtain ⟨x4_1, Z0, Z1, rfl, HA, HK1, HO_3, BK248, HB⟩ := hrel
    cases gk with
    | zero => exact absurd HA.out (by simp [fairleadref07_Of.l0])
    | succ k1 =>
      have H := HA.out
      clear HA
      simp only [fairleadref07_Of.l0] at H
      by_cases c5 : x4_1 < (t249.length : Int)
      · rw [if_pos c5] at H
        have c5b0 : decide (x4_1 < (t249.length : Int)) = true := decide_eq_true c5
        clear c5
        by_cases c6 : 0 ≤ x4_1
        · rw [if_pos c6] at H
          have c6b0 : decide (0 ≤ x4_1) = true := decide_eq_true c6
          clear c6
          by_cases c7 : (rd t249 x4_1) = ((((Int.tdiv a0 65536) % 4294967296) * 65536) % 4294967296)
          · rw [if_pos c7] at H
            have c7b0 : ((rd t249 x4_1) == ((((Int.tdiv a0 65536) % 4294967296) * 65536) % 4294967296)) = true := beq_iff_eq.mpr c7
            have c7b1 : ((rd t249 x4_1) != ((((Int.tdiv a0 65536) % 4294967296) * 65536) % 4294967296)) = false := bne_eq_false_iff_eq.mpr c7
            clear c7
            replace H := Option.bind_eq_some_iff.mp H
            obtain ⟨t253, A80, H⟩ := H
            replace H : (if t253 = true then (some (wrap64 (x4_1 + 1), wrap64 (Int.tmod a0 65536))) else (some (wrap64 (x4_1 + 1), 0))) = some (r1, r2) := H
            have A8 := Aside0.mk A80
            clear A80
            by_cases c9 : t253 = true
            · subst c9
              have H1 : (some (wrap64 (x4_1 + 1), wrap64 (Int.tmod a0 65536))) = some (r1, r2) := by rw [if_pos rfl] at H; exact H
              clear H
              have H := H1
              clear H1
              simp only [Option.some.injEq, Prod.mk.injEq] at H
              obtain ⟨rfl, rfl⟩ := H
              obtain ⟨Ao10, co10, eo10⟩ := Kd.R_slice HO_3.out
              subst eo10
              have p252 : 0 ≤ (x4_1 : Int) := of_decide_eq_true (by first | (with_reducible assumption) | assumption)
              have q252 : x4_1 < (t249.length : Int) := of_decide_eq_true (by first | (with_reducible assumption) | assumption)
              obtain ⟨ad252, e252, hx252_0⟩ := Kd.at_int (Kd.R_reads' HO_3.out).2.2 x4_1 p252 q252
              cases e252
              replace p252 := eq_true p252
              replace q252 := eq_true q252
              go_wp2_with (first | ((with_reducible refine gate_callee (f := 32) rfl ?_); refine goesL_ (some 22) rfl rfl Try.func32 (by kernel_rfl) rfl #[.int .i64 (wrap64 (x4_1 + 1))] rfl (by (try simp only [List.map_toArray, List.map_cons, List.map_nil]); first | done | rfl | (simp only [List.length_drop, List.length_take]; rfl)) ?_; (with_reducible refine (fairleadref07_has.calls (wrap64 (x4_1 + 1)) true _ A8.out).mono ?_); rintro e w' ⟨rfl, ⟨nd, rfl⟩⟩; refine ⟨_, rfl, ?_⟩; (try (rw [drewN_self wr]; generalize hq_ : World.drewN wr _ = wr; have n0_ : Aside0 (Kd.R (Kd.int .u32) 23 wr w.heap.size (fun _ => True) (.slice (some ad252) t249.length co10) t249) := ⟨by rw [← hq_]; exact (by (with_reducible repeat (first | apply Kd.R_alloc | apply Kd.R_drewN | apply Kd.R_drew)); exact HO_3.out)⟩; have n1_ : Aside0 (wr.heap[gb248]? = some (.cells #[.int .i64 Z0, .int .i64 Z1] 46 (0, 0))) := ⟨by rw [← hq_]; exact (by (with_reducible repeat (first | refine blk_drewN ?_ _ | refine blk_drew ?_ | refine blk_alloc ?_ _)); exact BK248.out)⟩; have n2_ : Aside0 (Below w.heap.size w wr) := ⟨by rw [← hq_]; exact (by repeat (first | (with_reducible first | exact HB.out | apply below_alloc | apply pw_below_drewN | apply below_drew1 | refine below_set ?_ GE248.out) | exact HB.out))⟩; clear HO_3 BK248 HB hq_; have HO_3 := n0_; have BK248 := n1_; have HB := n2_; clear n0_ n1_ n2_)); have hcz11_0 : wr.cell? ⟨gb248, 0, none⟩ = some (.int .i64 Z0) := (blk_cell BK248.out 0).trans rfl; have hcz11_1 : wr.cell? ⟨gb248, 1, none⟩ = some (.int .i64 Z1) := (blk_cell BK248.out 1).trans rfl; have hfz11_0 := blk_frozen BK248.out))
              refine bodyPost_ret (results_cell_row rfl _ _ gb248 46 #[.int .i64 (wrap64 (x4_1 + 1)), .int .i64 (wrap64 (Int.tmod a0 65536))] (0, 0) _ rfl (by (with_reducible repeat (first | refine blk_drewN ?_ _ | refine blk_drew ?_ | refine blk_alloc ?_ _)); refine blk_put (cs := #[.int .i64 (wrap64 (x4_1 + 1)), .int .i64 Z1]) ?_ 1 _ rfl; (with_reducible repeat (first | refine blk_drewN ?_ _ | refine blk_drew ?_ | refine blk_alloc ?_ _)); refine blk_put (cs := #[.int .i64 Z0, .int .i64 Z1]) ?_ 0 _ rfl; (with_reducible repeat (first | refine blk_drewN ?_ _ | refine blk_drew ?_ | refine blk_alloc ?_ _)); exact BK248.out) Try.underlying46 rfl (by kernel_rfl)) rfl ?_
              exact ⟨by first | rfl | (simp [errW_none, errW_some] <;> rfl) | (simp [*, errW_none, errW_some] <;> rfl), by repeat (first | (with_reducible first | exact HB.out | apply below_alloc | apply pw_below_drewN | apply below_drew1 | refine below_set ?_ GE248.out) | exact HB.out)⟩
            · replace c9 := Bool.eq_false_iff.mpr c9
              subst c9
              have H1 : (some (wrap64 (x4_1 + 1), 0)) = some (r1, r2) := by rw [if_neg (show ¬ (false = true) by decide)] at H; exact H
              clear H
              have H := H1
              clear H1
              simp only [Option.some.injEq, Prod.mk.injEq] at H
              obtain ⟨rfl, rfl⟩ := H
              obtain ⟨Ao12, co12, eo12⟩ := Kd.R_slice HO_3.out
              subst eo12
              have p252 : 0 ≤ (x4_1 : Int) := of_decide_eq_true (by first | (with_reducible assumption) | assumption)
              have q252 : x4_1 < (t249.length : Int) := of_decide_eq_true (by first | (with_reducible assumption) | assumption)
              obtain ⟨ad252, e252, hx252_0⟩ := Kd.at_int (Kd.R_reads' HO_3.out).2.2 x4_1 p252 q252
              cases e252
              replace p252 := eq_true p252
              replace q252 := eq_true q252
              go_wp2_with (first | ((with_reducible refine gate_callee (f := 32) rfl ?_); refine goesL_ (some 22) rfl rfl Try.func32 (by kernel_rfl) rfl #[.int .i64 (wrap64 (x4_1 + 1))] rfl (by (try simp only [List.map_toArray, List.map_cons, List.map_nil]); first | done | rfl | (simp only [List.length_drop, List.length_take]; rfl)) ?_; (with_reducible refine (fairleadref07_has.calls (wrap64 (x4_1 + 1)) false _ A8.out).mono ?_); rintro e w' ⟨rfl, ⟨nd, rfl⟩⟩; refine ⟨_, rfl, ?_⟩; (try (rw [drewN_self wr]; generalize hq_ : World.drewN wr _ = wr; have n0_ : Aside0 (Kd.R (Kd.int .u32) 23 wr w.heap.size (fun _ => True) (.slice (some ad252) t249.length co12) t249) := ⟨by rw [← hq_]; exact (by (with_reducible repeat (first | apply Kd.R_alloc | apply Kd.R_drewN | apply Kd.R_drew)); exact HO_3.out)⟩; have n1_ : Aside0 (wr.heap[gb248]? = some (.cells #[.int .i64 Z0, .int .i64 Z1] 46 (0, 0))) := ⟨by rw [← hq_]; exact (by (with_reducible repeat (first | refine blk_drewN ?_ _ | refine blk_drew ?_ | refine blk_alloc ?_ _)); exact BK248.out)⟩; have n2_ : Aside0 (Below w.heap.size w wr) := ⟨by rw [← hq_]; exact (by repeat (first | (with_reducible first | exact HB.out | apply below_alloc | apply pw_below_drewN | apply below_drew1 | refine below_set ?_ GE248.out) | exact HB.out))⟩; clear HO_3 BK248 HB hq_; have HO_3 := n0_; have BK248 := n1_; have HB := n2_; clear n0_ n1_ n2_)); have hcz13_0 : wr.cell? ⟨gb248, 0, none⟩ = some (.int .i64 Z0) := (blk_cell BK248.out 0).trans rfl; have hcz13_1 : wr.cell? ⟨gb248, 1, none⟩ = some (.int .i64 Z1) := (blk_cell BK248.out 1).trans rfl; have hfz13_0 := blk_frozen BK248.out))
              refine bodyPost_ret (results_cell_row rfl _ _ gb248 46 #[.int .i64 (wrap64 (x4_1 + 1)), .int .i64 0] (0, 0) _ rfl (by (with_reducible repeat (first | refine blk_drewN ?_ _ | refine blk_drew ?_ | refine blk_alloc ?_ _)); refine blk_put (cs := #[.int .i64 (wrap64 (x4_1 + 1)), .int .i64 Z1]) ?_ 1 _ rfl; (with_reducible repeat (first | refine blk_drewN ?_ _ | refine blk_drew ?_ | refine blk_alloc ?_ _)); refine blk_put (cs := #[.int .i64 Z0, .int .i64 Z1]) ?_ 0 _ rfl; (with_reducible repeat (first | refine blk_drewN ?_ _ | refine blk_drew ?_ | refine blk_alloc ?_ _)); exact BK248.out) Try.underlying46 rfl (by kernel_rfl)) rfl ?_
              exact ⟨by first | rfl | (simp [errW_none, errW_some] <;> rfl) | (simp [*, errW_none, errW_some] <;> rfl), by repeat (first | (with_reducible first | exact HB.out | apply below_alloc | apply pw_below_drewN | apply below_drew1 | refine below_set ?_ GE248.out) | exact HB.out)⟩
          · rw [if_neg c7] at H
            have c7b0 : ((rd t249 x4_1) == ((((Int.tdiv a0 65536) % 4294967296) * 65536) % 4294967296)) = false := beq_eq_false_iff_ne.mpr c7
            have c7b1 : ((rd t249 x4_1) != ((((Int.tdiv a0 65536) % 4294967296) * 65536) % 4294967296)) = true := bne_iff_ne.mpr c7
            have H' := Aside0.mk H
            clear H
            obtain ⟨Ao14, co14, eo14⟩ := Kd.R_slice HO_3.out
            subst eo14
            have p252 : 0 ≤ (x4_1 : Int) := of_decide_eq_true (by first | (with_reducible assumption) | assumption)
            have q252 : x4_1 < (t249.length : Int) := of_decide_eq_true (by first | (with_reducible assumption) | assumption)
            obtain ⟨ad252, e252, hx252_0⟩ := Kd.at_int (Kd.R_reads' HO_3.out).2.2 x4_1 p252 q252
            cases e252
            replace p252 := eq_true p252
            replace q252 := eq_true q252
            go_wp2
            go_roundg k1
            case measure => have := HK1.out; omega
            case rel => exact ⟨(wrap64 (x4_1 + 1)), (Z0), (Z1), (by first | rfl | (simp; done) | (simp [*]; done)), H', ⟨by have := HK1.out; omega⟩, ⟨by (with_reducible repeat (first | apply Kd.R_alloc | apply Kd.R_drewN | apply Kd.R_drew)); exact HO_3.out⟩, ⟨by (with_reducible repeat (first | refine blk_drewN ?_ _ | refine blk_drew ?_ | refine blk_alloc ?_ _)); exact BK248.out⟩, ⟨by repeat (first | (with_reducible first | exact HB.out | apply below_alloc | apply pw_below_drewN | apply below_drew1 | refine below_set ?_ GE248.out) | exact HB.out)⟩⟩
        · rw [if_neg c6] at H
          exact absurd H (by simp)
      · rw [if_neg c5] at H
        have c5b0 : decide (x4_1 < (t249.length : Int)) = false := decide_eq_false c5
        clear c5
        simp only [Option.some.injEq, Prod.mk.injEq] at H
        obtain ⟨rfl, rfl⟩ := H
        obtain ⟨Ao15, co15, eo15⟩ := Kd.R_slice HO_3.out
        subst eo15
        have hcz16_0 : wr.cell? ⟨gb248, 0, none⟩ = some (.int .i64 Z0) := (blk_cell BK248.out 0).trans rfl
        have hcz16_1 : wr.cell? ⟨gb248, 1, none⟩ = some (.int .i64 Z1) := (blk_cell BK248.out 1).trans rfl
        have hfz16_0 := blk_frozen BK248.out
        go_wp2
        refine bodyPost_ret (results_cell_row rfl _ _ gb248 46 #[.int .i64 1, .int .i64 0] (0, 0) _ rfl (by (with_reducible repeat (first | refine blk_drewN ?_ _ | refine blk_drew ?_ | refine blk_alloc ?_ _)); refine blk_put (cs := #[.int .i64 1, .int .i64 Z1]) ?_ 1 _ rfl; (with_reducible repeat (first | refine blk_drewN ?_ _ | refine blk_drew ?_ | refine blk_alloc ?_ _)); refine blk_put (cs := #[.int .i64 Z0, .int .i64 Z1]) ?_ 0 _ rfl; (with_reducible repeat (first | refine blk_drewN ?_ _ | refine blk_drew ?_ | refine blk_alloc ?_ _)); exact BK248.out) Try.underlying46 rfl (by kernel_rfl)) rfl ?_
        exact ⟨by first | rfl | (simp [errW_none, errW_some] <;> rfl) | (simp [*, errW_none, errW_some] <;> rfl), by repeat (first | (with_reducible first | exact HB.out | apply below_alloc | apply pw_below_drewN | apply below_drew1 | refine below_set ?_ GE248.out) | exact HB.out)⟩
mutual
def fairleadref07_Most.l0 : Nat → List Int → Int → Option (Int)
  | 0, _, _ => none
  | k + 1, x0, x3 => if x3 < (x0.length : Int) then (fairleadref07_Most.l1 k x0 x3 true 0) else (some 2147418112)
def fairleadref07_Most.l1 : Nat → List Int → Int → Bool → Int → Option (Int)
  | 0, _, _, _, _ => none
  | k + 1, x0, x3, x4, x5 => if x5 < (x0.length : Int) then (if 0 ≤ x5 then ((fairleadref07_Of.f k (rd x0 x5)).bind fun bt256 => (if 0 ≤ x3 then (if x3 < (x0.length : Int) then ((fairleadref07_Of.f k (rd x0 x3)).bind fun bt259 => (if bt256.1 < bt259.1 then (fairleadref07_Most.l1 k x0 x3 false (wrap64 (x5 + 1))) else (fairleadref07_Most.l1 k x0 x3 x4 (wrap64 (x5 + 1))))) else (none)) else (none))) else (none)) else (if x4 = true then (if 0 ≤ x3 then (if x3 < (x0.length : Int) then (some (rd x0 x3)) else (none)) else (none)) else (fairleadref07_Most.l0 k x0 (wrap64 (x3 + 1))))
end
def fairleadref07_Most.f (k : Nat) (l0 : List Int) : Option (Int) := fairleadref07_Most.l0 k l0 0
def fairleadref07_Most.T8 : Bool × List (List Nat × List Nat) := (true, [([], []), ([], []), ([0, 1], [0, 1]), ([2], [2]), ([3], [3]), ([4], [4]), ([], []), ([], []), ([6, 7], [6, 7]), ([8], [8]), ([9, 4], [9]), ([10], [10]), ([5, 11], [5, 11])])
def fairleadref07_Most.B8 : List Nat := [0, 0, 3, 7, 15, 31, 0, 0, 192, 448, 991, 2015, 4095]
theorem fairleadref07_Most.tab8 : rtab .any (opsOf Try.f26 8) = fairleadref07_Most.T8 := by kernel_rfl
theorem fairleadref07_Most.bits8 : waitsOk fairleadref07_Most.T8.2 fairleadref07_Most.B8 = true := by kernel_rfl
set_option maxHeartbeats 8000000 in
set_option maxRecDepth 100000 in
theorem fairleadref07_Most.calls (k : Nat) (A0 : Option Addr) (c0 : Nat) (l0 : List Int) (r : Int) (w : World) (hr0 : Kd.C (Kd.int .u32) w A0 l0.length l0) (hc0 : l0.length ≤ c0) (h : fairleadref07_Most.f k l0 = some r) :
    Calls Try.prog 26 #[.slice A0 l0.length c0] w fun e w' => e = .returned (.int .u32 r) ∧ Below w.heap.size w w' := by
  have hu46 := Try.underlying46
  have hfd46 := fun (cs_ : Array Value) (j_ : Nat) (w_ : World) => Mine.run_field (P := Try.prog) Try.underlying46 cs_ j_ w_
  have HR0 := Aside0.mk hr0
  have HC0 := Aside0.mk hc0
  clear hr0 hc0
  have HB := Aside0.mk (Below.refl w.heap.size w)
  have H : (fairleadref07_Most.l0 k l0 0) = some r := h
  clear h
  have H' := Aside0.mk H
  clear H
  go_enter Try.func26, Try.ntmps26
  go_wp2
  go_loopg [3] k (fun kq v3 w' => ∃ (x3_1 : Int), v3 = .int .i64 x3_1 ∧ Aside0 (fairleadref07_Most.l0 kq l0 x3_1 = some r) ∧ Aside0 (kq ≤ k) ∧ Aside0 (Below w.heap.size w w'))
  case atStart => exact ⟨(0), (by first | rfl | (simp; done) | (simp [*]; done)), H', ⟨Nat.le_refl _⟩, ⟨by repeat (first | (with_reducible first | exact HB.out | apply below_alloc | apply pw_below_drewN | apply below_drew1) | exact HB.out)⟩⟩
  case round =>
    clear H'
    obtain ⟨x3_1, rfl, HA, HK1, HB⟩ := hrel
    cases gk with
    | zero => exact absurd HA.out (by simp [fairleadref07_Most.l0])
    | succ k1 =>
      have H := HA.out
      clear HA
      simp only [fairleadref07_Most.l0] at H
      by_cases c2 : x3_1 < (l0.length : Int)
      · rw [if_pos c2] at H
        have c2b0 : decide (x3_1 < (l0.length : Int)) = true := decide_eq_true c2
        clear c2
        have H' := Aside0.mk H
        clear H
        go_wp2
        go_loopg [4, 5] k1 (fun kq v4 v5 w' => ∃ (x4_2 : Bool) (x5_2 : Int), v4 = .bool x4_2 ∧ v5 = .int .i64 x5_2 ∧ Aside0 (fairleadref07_Most.l1 kq l0 x3_1 x4_2 x5_2 = some r) ∧ Aside0 (kq ≤ k1) ∧ Aside0 (Below w.heap.size w w'))
        case atStart => exact ⟨(true), (0), (by first | rfl | (simp; done) | (simp [*]; done)), (by first | rfl | (simp; done) | (simp [*]; done)), H', ⟨Nat.le_refl _⟩, ⟨by repeat (first | (with_reducible first | exact HB.out | apply below_alloc | apply pw_below_drewN | apply below_drew1) | exact HB.out)⟩⟩
        case round =>
          clear H'
          try clear c2
          try clear c2b0
          try clear p2
          obtain ⟨x4_2, x5_2, rfl, rfl, HA, HK2, HB⟩ := hrel
          cases gk with
          | zero => exact absurd HA.out (by simp [fairleadref07_Most.l1])
          | succ k2 =>
            have H := HA.out
            clear HA
            simp only [fairleadref07_Most.l1] at H
            by_cases c3 : x5_2 < (l0.length : Int)
            · rw [if_pos c3] at H
              have c3b0 : decide (x5_2 < (l0.length : Int)) = true := decide_eq_true c3
              clear c3
              by_cases c4 : 0 ≤ x5_2
              · rw [if_pos c4] at H
                have c4b0 : decide (0 ≤ x5_2) = true := decide_eq_true c4
                clear c4
                replace H := Option.bind_eq_some_iff.mp H
                obtain ⟨⟨t256, t257⟩, A50, H⟩ := H
                replace H : (if 0 ≤ x3_1 then (if x3_1 < (l0.length : Int) then ((fairleadref07_Of.f k2 (rd l0 x3_1)).bind fun bt259 => (if t256 < bt259.1 then (fairleadref07_Most.l1 k2 l0 x3_1 false (wrap64 (x5_2 + 1))) else (fairleadref07_Most.l1 k2 l0 x3_1 x4_2 (wrap64 (x5_2 + 1))))) else (none)) else (none)) = some r := H
                have A5 := Aside0.mk A50
                clear A50
                by_cases c6 : 0 ≤ x3_1
                · rw [if_pos c6] at H
                  have c6b0 : decide (0 ≤ x3_1) = true := decide_eq_true c6
                  clear c6
                  by_cases c7 : x3_1 < (l0.length : Int)
                  · rw [if_pos c7] at H
                    have c7b0 : decide (x3_1 < (l0.length : Int)) = true := decide_eq_true c7
                    clear c7
                    replace H := Option.bind_eq_some_iff.mp H
                    obtain ⟨⟨t259, t260⟩, A80, H⟩ := H
                    replace H : (if t256 < t259 then (fairleadref07_Most.l1 k2 l0 x3_1 false (wrap64 (x5_2 + 1))) else (fairleadref07_Most.l1 k2 l0 x3_1 x4_2 (wrap64 (x5_2 + 1)))) = some r := H
                    have A8 := Aside0.mk A80
                    clear A80
                    by_cases c9 : t256 < t259
                    · rw [if_pos c9] at H
                      have c9b0 : decide (t256 < t259) = true := decide_eq_true c9
                      clear c9
                      have H' := Aside0.mk H
                      clear H
                      try go_wp2
                      have n0_ := Aside0.mk (below_drew1 HB.out)
                      clear HB
                      have HB := n0_
                      clear n0_
                      have p255 : 0 ≤ (x5_2 : Int) := of_decide_eq_true (by first | (with_reducible assumption) | assumption)
                      have q255 : x5_2 < (l0.length : Int) := of_decide_eq_true (by first | (with_reducible assumption) | assumption)
                      obtain ⟨ad255, e255, hx255_0⟩ := Kd.at_int HR0.out x5_2 p255 q255
                      have hw255_0 := hx255_0
                      cases e255
                      replace hx255_0 := (HB.out.cell (World.block_lt_of_cell? w _ hx255_0)).trans hx255_0
                      replace p255 := eq_true p255
                      replace q255 := eq_true q255
                      have p258 : 0 ≤ (x3_1 : Int) := of_decide_eq_true (by first | (with_reducible assumption) | assumption)
                      have q258 : x3_1 < (l0.length : Int) := of_decide_eq_true (by first | (with_reducible assumption) | assumption)
                      obtain ⟨ad258, e258, hx258_0⟩ := Kd.at_int HR0.out x3_1 p258 q258
                      have hw258_0 := hx258_0
                      obtain rfl : ad255 = ad258 := (by injection e258)
                      replace hx258_0 := (HB.out.cell (World.block_lt_of_cell? w _ hx258_0)).trans hx258_0
                      replace p258 := eq_true p258
                      replace q258 := eq_true q258
                      refine start_ (n := 13) (S := fun w' => w'.cell? (ad255.add (x5_2).toNat) = some (.int .u32 (rd l0 x5_2)) ∧ w'.cell? (ad255.add (x3_1).toNat) = some (.int .u32 (rd l0 x3_1))) (ds := []) #[false, false, false, false, false, false, false, false, false, false, false, false, false] (by kernel_rfl) rfl rfl ⟨((HB.out.cell (World.block_lt_of_cell? w _ hw255_0)).trans hw255_0), ((HB.out.cell (World.block_lt_of_cell? w _ hw258_0)).trans hw258_0)⟩ (fun hHeld => ?_); refine with_tabW fairleadref07_Most.tab8 fairleadref07_Most.bits8 (fun HT_ HW_ => ?_)
                      generalize wr.drew = w10 at HB hx255_0 hx258_0 hHeld ⊢
                      refine Mine.pS 0 (some 18) ?_ (hc := any_of HT_.out (by kernel_rfl)); refine Mine.pS 1 (some 19) ?_ (hc := any_of HT_.out (by kernel_rfl)); refine Mine.pS 2 (some 20) ?_ (hc := any_of HT_.out (by kernel_rfl)); refine Mine.pS 6 (some 24) ?_ (hc := any_of HT_.out (by kernel_rfl)); refine Mine.pS 7 (some 25) ?_ (hc := any_of HT_.out (by kernel_rfl)); refine Mine.pS 8 (some 26) ?_ (hc := any_of HT_.out (by kernel_rfl)); refine Mine.tS 3 (some 21) hHeld ?_ (hc := take_ofW HT_.out HW_.out (by kernel_rfl)); refine Mine.tS 9 (some 27) hHeld ?_ (hc := take_ofW HT_.out HW_.out (by kernel_rfl))
                      refine one_ (i := 4) (N := some 22) #[true, true, true, true, true, false, true, true, true, true, false, false, false] rfl rfl (one_of HT_.out (by kernel_rfl)) (by decide) (fun K hK => ?_)
                      refine goes_ Try.func20 (by kernel_rfl) rfl #[.int .u32 (rd l0 x5_2)] (by rfl) rfl rfl (by (try simp only [List.map_toArray, List.map_cons, List.map_nil]); first | done | rfl | (simp only [List.length_drop, List.length_take]; rfl)) ?_
                      with_reducible refine (fairleadref07_Of.calls k2 (rd l0 x5_2) t256 t257 _ A5.out).mono ?_
                      rintro e w11 ⟨rfl, hb⟩
                      refine ⟨_, rfl, ?_⟩
                      have n0_ := Aside0.mk (below_step (by repeat (first | (with_reducible first | exact HB.out | apply below_alloc | apply pw_below_drewN | apply below_drew1) | exact HB.out)) hb)
                      clear HB
                      have HB := n0_
                      clear n0_
                      (try clear hb)
                      (try clear hb2)
                      (try clear hk)
                      (try clear hi)
                      refine hK.out _ _ ⟨((HB.out.cell (World.block_lt_of_cell? w _ hw255_0)).trans hw255_0), ((HB.out.cell (World.block_lt_of_cell? w _ hw258_0)).trans hw258_0)⟩ (fun hHeld => ?_)
                      clear hK K
                      refine norm_ (a' := ?_) ?_ ?_
                      rotate_left
                      · show Act.put _ (some 22) _ = _
                        simp only [Act.put, List.setIfInBounds_toArray, List.set_cons_zero, List.set_cons_succ, i64_w, i32_w]
                        rfl
                      refine Mine.pS 5 (some 23) ?_ (hc := any_of HT_.out (by kernel_rfl))
                      refine one_ (i := 10) (N := some 28) #[true, true, true, true, true, true, true, true, true, true, true, false, false] rfl rfl (one_of HT_.out (by kernel_rfl)) (by decide) (fun K hK => ?_)
                      refine goes_ Try.func20 (by kernel_rfl) rfl #[.int .u32 (rd l0 x3_1)] (by rfl) rfl rfl (by (try simp only [List.map_toArray, List.map_cons, List.map_nil]); first | done | rfl | (simp only [List.length_drop, List.length_take]; rfl)) ?_
                      with_reducible refine (fairleadref07_Of.calls k2 (rd l0 x3_1) t259 t260 _ A8.out).mono ?_
                      rintro e w12 ⟨rfl, hb⟩
                      refine ⟨_, rfl, ?_⟩
                      have n0_ := Aside0.mk (below_step (by repeat (first | (with_reducible first | exact HB.out | apply below_alloc | apply pw_below_drewN | apply below_drew1) | exact HB.out)) hb)
                      clear HB
                      have HB := n0_
                      clear n0_
                      (try clear hb)
                      (try clear hb2)
                      (try clear hk)
                      (try clear hi)
                      refine hK.out _ _ ⟨((HB.out.cell (World.block_lt_of_cell? w _ hw255_0)).trans hw255_0), ((HB.out.cell (World.block_lt_of_cell? w _ hw258_0)).trans hw258_0)⟩ (fun hHeld => ?_)
                      clear hK K
                      refine norm_ (a' := ?_) ?_ ?_
                      rotate_left
                      · show Act.put _ (some 28) _ = _
                        simp only [Act.put, List.setIfInBounds_toArray, List.set_cons_zero, List.set_cons_succ, i64_w, i32_w]
                        rfl
                      refine Mine.pS 11 (some 29) ?_ (hc := any_of HT_.out (by kernel_rfl)); refine Mine.pS 12 (some 30) ?_ (hc := any_of HT_.out (by kernel_rfl))
                      refine done_ (done_of HT_.out (by kernel_rfl)) ?_
                      try go_wp2
                      go_roundg k2
                      case measure => have := HK1.out; have := HK2.out; omega
                      case rel => exact ⟨(false), (wrap64 (x5_2 + 1)), (by first | rfl | (simp; done) | (simp [*]; done)), (by first | rfl | (simp; done) | (simp [*]; done)), H', ⟨by have := HK1.out; have := HK2.out; omega⟩, ⟨by repeat (first | (with_reducible first | exact HB.out | apply below_alloc | apply pw_below_drewN | apply below_drew1) | exact HB.out)⟩⟩
                    · rw [if_neg c9] at H
                      have c9b0 : decide (t256 < t259) = false := decide_eq_false c9
                      clear c9
                      have H' := Aside0.mk H
                      clear H
                      try go_wp2
                      have n0_ := Aside0.mk (below_drew1 HB.out)
                      clear HB
                      have HB := n0_
                      clear n0_
                      have p255 : 0 ≤ (x5_2 : Int) := of_decide_eq_true (by first | (with_reducible assumption) | assumption)
                      have q255 : x5_2 < (l0.length : Int) := of_decide_eq_true (by first | (with_reducible assumption) | assumption)
                      obtain ⟨ad255, e255, hx255_0⟩ := Kd.at_int HR0.out x5_2 p255 q255
                      have hw255_0 := hx255_0
                      cases e255
                      replace hx255_0 := (HB.out.cell (World.block_lt_of_cell? w _ hx255_0)).trans hx255_0
                      replace p255 := eq_true p255
                      replace q255 := eq_true q255
                      have p258 : 0 ≤ (x3_1 : Int) := of_decide_eq_true (by first | (with_reducible assumption) | assumption)
                      have q258 : x3_1 < (l0.length : Int) := of_decide_eq_true (by first | (with_reducible assumption) | assumption)
                      obtain ⟨ad258, e258, hx258_0⟩ := Kd.at_int HR0.out x3_1 p258 q258
                      have hw258_0 := hx258_0
                      obtain rfl : ad255 = ad258 := (by injection e258)
                      replace hx258_0 := (HB.out.cell (World.block_lt_of_cell? w _ hx258_0)).trans hx258_0
                      replace p258 := eq_true p258
                      replace q258 := eq_true q258
                      refine start_ (n := 13) (S := fun w' => w'.cell? (ad255.add (x5_2).toNat) = some (.int .u32 (rd l0 x5_2)) ∧ w'.cell? (ad255.add (x3_1).toNat) = some (.int .u32 (rd l0 x3_1))) (ds := []) #[false, false, false, false, false, false, false, false, false, false, false, false, false] (by kernel_rfl) rfl rfl ⟨((HB.out.cell (World.block_lt_of_cell? w _ hw255_0)).trans hw255_0), ((HB.out.cell (World.block_lt_of_cell? w _ hw258_0)).trans hw258_0)⟩ (fun hHeld => ?_); refine with_tabW fairleadref07_Most.tab8 fairleadref07_Most.bits8 (fun HT_ HW_ => ?_)
                      generalize wr.drew = w13 at HB hx255_0 hx258_0 hHeld ⊢
                      refine Mine.pS 0 (some 18) ?_ (hc := any_of HT_.out (by kernel_rfl)); refine Mine.pS 1 (some 19) ?_ (hc := any_of HT_.out (by kernel_rfl)); refine Mine.pS 2 (some 20) ?_ (hc := any_of HT_.out (by kernel_rfl)); refine Mine.pS 6 (some 24) ?_ (hc := any_of HT_.out (by kernel_rfl)); refine Mine.pS 7 (some 25) ?_ (hc := any_of HT_.out (by kernel_rfl)); refine Mine.pS 8 (some 26) ?_ (hc := any_of HT_.out (by kernel_rfl)); refine Mine.tS 3 (some 21) hHeld ?_ (hc := take_ofW HT_.out HW_.out (by kernel_rfl)); refine Mine.tS 9 (some 27) hHeld ?_ (hc := take_ofW HT_.out HW_.out (by kernel_rfl))
                      refine one_ (i := 4) (N := some 22) #[true, true, true, true, true, false, true, true, true, true, false, false, false] rfl rfl (one_of HT_.out (by kernel_rfl)) (by decide) (fun K hK => ?_)
                      refine goes_ Try.func20 (by kernel_rfl) rfl #[.int .u32 (rd l0 x5_2)] (by rfl) rfl rfl (by (try simp only [List.map_toArray, List.map_cons, List.map_nil]); first | done | rfl | (simp only [List.length_drop, List.length_take]; rfl)) ?_
                      with_reducible refine (fairleadref07_Of.calls k2 (rd l0 x5_2) t256 t257 _ A5.out).mono ?_
                      rintro e w14 ⟨rfl, hb⟩
                      refine ⟨_, rfl, ?_⟩
                      have n0_ := Aside0.mk (below_step (by repeat (first | (with_reducible first | exact HB.out | apply below_alloc | apply pw_below_drewN | apply below_drew1) | exact HB.out)) hb)
                      clear HB
                      have HB := n0_
                      clear n0_
                      (try clear hb)
                      (try clear hb2)
                      (try clear hk)
                      (try clear hi)
                      refine hK.out _ _ ⟨((HB.out.cell (World.block_lt_of_cell? w _ hw255_0)).trans hw255_0), ((HB.out.cell (World.block_lt_of_cell? w _ hw258_0)).trans hw258_0)⟩ (fun hHeld => ?_)
                      clear hK K
                      refine norm_ (a' := ?_) ?_ ?_
                      rotate_left
                      · show Act.put _ (some 22) _ = _
                        simp only [Act.put, List.setIfInBounds_toArray, List.set_cons_zero, List.set_cons_succ, i64_w, i32_w]
                        rfl
                      refine Mine.pS 5 (some 23) ?_ (hc := any_of HT_.out (by kernel_rfl))
                      refine one_ (i := 10) (N := some 28) #[true, true, true, true, true, true, true, true, true, true, true, false, false] rfl rfl (one_of HT_.out (by kernel_rfl)) (by decide) (fun K hK => ?_)
                      refine goes_ Try.func20 (by kernel_rfl) rfl #[.int .u32 (rd l0 x3_1)] (by rfl) rfl rfl (by (try simp only [List.map_toArray, List.map_cons, List.map_nil]); first | done | rfl | (simp only [List.length_drop, List.length_take]; rfl)) ?_
                      with_reducible refine (fairleadref07_Of.calls k2 (rd l0 x3_1) t259 t260 _ A8.out).mono ?_
                      rintro e w15 ⟨rfl, hb⟩
                      refine ⟨_, rfl, ?_⟩
                      have n0_ := Aside0.mk (below_step (by repeat (first | (with_reducible first | exact HB.out | apply below_alloc | apply pw_below_drewN | apply below_drew1) | exact HB.out)) hb)
                      clear HB
                      have HB := n0_
                      clear n0_
                      (try clear hb)
                      (try clear hb2)
                      (try clear hk)
                      (try clear hi)
                      refine hK.out _ _ ⟨((HB.out.cell (World.block_lt_of_cell? w _ hw255_0)).trans hw255_0), ((HB.out.cell (World.block_lt_of_cell? w _ hw258_0)).trans hw258_0)⟩ (fun hHeld => ?_)
                      clear hK K
                      refine norm_ (a' := ?_) ?_ ?_
                      rotate_left
                      · show Act.put _ (some 28) _ = _
                        simp only [Act.put, List.setIfInBounds_toArray, List.set_cons_zero, List.set_cons_succ, i64_w, i32_w]
                        rfl
                      refine Mine.pS 11 (some 29) ?_ (hc := any_of HT_.out (by kernel_rfl)); refine Mine.pS 12 (some 30) ?_ (hc := any_of HT_.out (by kernel_rfl))
                      refine done_ (done_of HT_.out (by kernel_rfl)) ?_
                      try go_wp2
                      go_roundg k2
                      case measure => have := HK1.out; have := HK2.out; omega
                      case rel => exact ⟨(x4_2), (wrap64 (x5_2 + 1)), (by first | rfl | (simp; done) | (simp [*]; done)), (by first | rfl | (simp; done) | (simp [*]; done)), H', ⟨by have := HK1.out; have := HK2.out; omega⟩, ⟨by repeat (first | (with_reducible first | exact HB.out | apply below_alloc | apply pw_below_drewN | apply below_drew1) | exact HB.out)⟩⟩
                  · rw [if_neg c7] at H
                    exact absurd H (by simp)
                · rw [if_neg c6] at H
                  exact absurd H (by simp)
              · rw [if_neg c4] at H
                exact absurd H (by simp)
            · rw [if_neg c3] at H
              have c3b0 : decide (x5_2 < (l0.length : Int)) = false := decide_eq_false c3
              clear c3
              by_cases c16 : x4_2 = true
              · subst c16
                have H1 : (if 0 ≤ x3_1 then (if x3_1 < (l0.length : Int) then (some (rd l0 x3_1)) else (none)) else (none)) = some r := by rw [if_pos rfl] at H; exact H
                clear H
                have H := H1
                clear H1
                by_cases c17 : 0 ≤ x3_1
                · rw [if_pos c17] at H
                  have c17b0 : decide (0 ≤ x3_1) = true := decide_eq_true c17
                  clear c17
                  by_cases c18 : x3_1 < (l0.length : Int)
                  · rw [if_pos c18] at H
                    have c18b0 : decide (x3_1 < (l0.length : Int)) = true := decide_eq_true c18
                    clear c18
                    obtain rfl := Option.some.inj H
                    have p254 : 0 ≤ (x3_1 : Int) := of_decide_eq_true (by first | (with_reducible assumption) | assumption)
                    have q254 : x3_1 < (l0.length : Int) := of_decide_eq_true (by first | (with_reducible assumption) | assumption)
                    obtain ⟨ad254, e254, hx254_0⟩ := Kd.at_int HR0.out x3_1 p254 q254
                    cases e254
                    replace hx254_0 := (HB.out.cell (World.block_lt_of_cell? w _ hx254_0)).trans hx254_0
                    replace p254 := eq_true p254
                    replace q254 := eq_true q254
                    go_wp2
                    go_ret
                    exact ⟨by first | rfl | (simp [errW_none, errW_some] <;> rfl) | (simp [*, errW_none, errW_some] <;> rfl), by repeat (first | (with_reducible first | exact HB.out | apply below_alloc | apply pw_below_drewN | apply below_drew1) | exact HB.out)⟩
                  · rw [if_neg c18] at H
                    exact absurd H (by simp)
                · rw [if_neg c17] at H
                  exact absurd H (by simp)
              · replace c16 := Bool.eq_false_iff.mpr c16
                subst c16
                have H1 : (fairleadref07_Most.l0 k2 l0 (wrap64 (x3_1 + 1))) = some r := by rw [if_neg (show ¬ (false = true) by decide)] at H; exact H
                clear H
                have H := H1
                clear H1
                have H' := Aside0.mk H
                clear H
                go_wp2
                go_roundg k2
                case measure => have := HK1.out; have := HK2.out; omega
                case rel => exact ⟨(wrap64 (x3_1 + 1)), (by first | rfl | (simp; done) | (simp [*]; done)), H', ⟨by have := HK1.out; have := HK2.out; omega⟩, ⟨by repeat (first | (with_reducible first | exact HB.out | apply below_alloc | apply pw_below_drewN | apply below_drew1) | exact HB.out)⟩⟩
      · rw [if_neg c2] at H
        have c2b0 : decide (x3_1 < (l0.length : Int)) = false := decide_eq_false c2
        clear c2
        obtain rfl := Option.some.inj H
        go_wp2
        go_ret
        exact ⟨by first | rfl | (simp [errW_none, errW_some] <;> rfl) | (simp [*, errW_none, errW_some] <;> rfl), by repeat (first | (with_reducible first | exact HB.out | apply below_alloc | apply pw_below_drewN | apply below_drew1) | exact HB.out)⟩
end Go.Proofs.Yteojfjlklikaoaa.M
