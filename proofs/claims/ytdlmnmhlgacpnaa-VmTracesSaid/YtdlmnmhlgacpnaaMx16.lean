-- Laid by a program (wip/tools/myprint.py) out of the loaded program's own print: for each Go function a Lean function and the proof of its contract.
import Derived.Test.YtdlmnmhlgacpnaaMx0
import Derived.Test.YtdlmnmhlgacpnaaMx7
import Derived.Test.YtdlmnmhlgacpnaaMx10
import Derived.Test.YtdlmnmhlgacpnaaMx11
namespace Go.Proofs.Ytdlmnmhlgacpnaa.M
open Go.RowKit Go.Proofs.YtdlmnmhlgacpnaaW.PrintWords Go.Proofs.YtdlmnmhlgacpnaaW.PrintLast Go.Proofs.YtdlmnmhlgacpnaaW.PrintMore
attribute [local go_sem] max2_int min2_int max_two min_two max_three min_three max_four min_four   -- for this text's walks alone
set_option linter.unusedVariables false
set_option linter.unusedSimpArgs false

/-! ### fairleadref06_Trace: function 13 -/
-- HAND rounds=True making=True
def fairleadref06_Trace.l0 : Nat → List S37 → Int → Int → Int → Int → Int → Int → Int → Int → Int → Int → Int → Int → StS → List Int → Option (List Int × Int)
  | 0, _, _, _, _, _, _, _, _, _, _, _, _, _, _, _ => none
  | k + 1, l, c, d0, d1, d2, d3, d4, d5, d6, d7, d8, T, n, s, L => if c ≤ (l.length : Int) then (if s.o = true then some (L, 0) else if 0 ≤ T ∧ T < (l.length : Int) ∧ L.length < 1000000000 then (fairleadref06_Step.g k (rd_T37 l T).f0 (rd_T37 l T).f1 (rd_T37 l T).f2 (rd_T37 l T).f3 d0 d1 d2 d3 d4 d5 d6 d7 d8 (wrap64 (T + 1)) s).bind fun p => fairleadref06_Trace.l0 k l (wrap64 (c + 1)) d0 d1 d2 d3 d4 d5 d6 d7 d8 p.1 (wrap64 (n + 1)) p.2 (L ++ [T]) else none) else some (L, 0)
def fairleadref06_Trace.f (k : Nat) (l : List S37) (d0 d1 d2 d3 d4 d5 d6 d7 d8 : Int) : Option (List Int × Int) := (fairleadref05_Check.f k l).bind fun t => if t.1 = 0 then fairleadref06_Trace.l0 k l 0 d0 d1 d2 d3 d4 d5 d6 d7 d8 0 0 ⟨0, 0, false, 0, fun _ => 0⟩ [] else some ([], t.1)
theorem fairleadref06_Trace.mono_l : ∀ (k : Nat) (l : List S37) (c d0 d1 d2 d3 d4 d5 d6 d7 d8 T n : Int) (s : StS) (L : List Int), LeO (fairleadref06_Trace.l0 k l c d0 d1 d2 d3 d4 d5 d6 d7 d8 T n s L) (fairleadref06_Trace.l0 (k + 1) l c d0 d1 d2 d3 d4 d5 d6 d7 d8 T n s L)
  | 0 => fun _ _ _ _ _ _ _ _ _ _ _ _ _ _ _ r h => by simp [fairleadref06_Trace.l0] at h
  | k + 1 => by
    have ih := fairleadref06_Trace.mono_l k
    intro l c d0 d1 d2 d3 d4 d5 d6 d7 d8 T n s L
    unfold fairleadref06_Trace.l0
    exact LeO.ite (LeO.ite (LeO.refl _) (LeO.ite (LeO.bind (fairleadref06_Step.mono_g _ _ _ _ _ _ _ _ _ _ _ _ _ _ _ _) (fun _ => ih _ _ _ _ _ _ _ _ _ _ _ _ _ _ _)) (LeO.refl _))) (LeO.refl _)
theorem fairleadref06_Trace.mono : ∀ (l : List S37) (d0 d1 d2 d3 d4 d5 d6 d7 d8 : Int) (k : Nat), LeO (fairleadref06_Trace.f k l d0 d1 d2 d3 d4 d5 d6 d7 d8) (fairleadref06_Trace.f (k + 1) l d0 d1 d2 d3 d4 d5 d6 d7 d8) := by
  intro l d0 d1 d2 d3 d4 d5 d6 d7 d8 k
  unfold fairleadref06_Trace.f
  exact LeO.bind (fairleadref05_Check.mono _ _) (fun _ => LeO.ite (fairleadref06_Trace.mono_l _ _ _ _ _ _ _ _ _ _ _ _ _ _ _ _) (LeO.refl _))
set_option maxHeartbeats 8000000 in
set_option maxRecDepth 100000 in
theorem fairleadref06_Trace.calls (k : Nat) (A0 : Option Addr) (c0 : Nat) (l0 : List S37) (d0 d1 d2 d3 d4 d5 d6 d7 d8 : Int) (r1 : List Int) (r2 : Int) (w : World) (hr0 : Kd.C k37 w A0 l0.length l0) (hc0 : l0.length ≤ c0) (h : fairleadref06_Trace.f k l0 d0 d1 d2 d3 d4 d5 d6 d7 d8 = some (r1, r2)) :
  Calls Try.prog 13 #[.slice A0 l0.length c0, .agg #[.int .u32 d0, .int .u32 d1, .int .u64 d2, .int .u64 d3, .int .u64 d4, .int .u64 d5, .int .u64 d6, .int .u64 d7, .int .u64 d8]] w fun e w' => ∃ v0_ : Value, e = .returned (.tuple #[v0_, .int .i64 r2]) ∧ Kd.R (Kd.int .i64) 3 w' w.heap.size (fun _ => True) v0_ r1 ∧ Below w.heap.size w w' := by
  have hu27_ := Try.underlying27
  have hu56_ := Try.underlying56
  have HR0 := Aside0.mk hr0
  have HC0 := Aside0.mk hc0
  clear hr0 hc0
  obtain ⟨⟨t1, t2⟩, A30, H⟩ := Option.bind_eq_some_iff.mp h
  have A3 := Aside0.mk A30
  clear A30 h
  by_cases c4 : t1 = 0
  · replace H := (if_pos c4).symm.trans H
    have c4b0 : (t1 == 0) = true := beq_iff_eq.mpr c4
    have c4b1 : (t1 != 0) = false := bne_eq_false_iff_eq.mpr c4
    clear c4
    have H' := Aside0.mk H
    clear H
    go_enter Try.func13, Try.ntmps13
    go_wp2_with (first | ((with_reducible refine gate_dst (N := 3) rfl ?_); refine box_event ?hg (N := 3) ?hd (cs := #[.int .u32 d0, .int .u32 d1, .int .u64 d2, .int .u64 d3, .int .u64 d4, .int .u64 d5, .int .u64 d6, .int .u64 d7, .int .u64 d8]) (t := 27) ?hr ?_; (case hd => rfl); (case hg => rfl); (case hr => first | (go_simp; done) | (go_simp; rfl)); intro gd hg w1 hbox hb; have GD := Aside0.mk hg; have B1 := Aside0.mk hbox; have W1 := Aside0.mk hb; clear hg hbox hb) | ((go_at_call 19; (refine (fairleadref05_Check.calls k _ _ l0 t1 t2 _ (Kd.C_below HR0.out W1.out) HC0.out A3.out).mono ?_); rintro e w2 ⟨rfl, hb⟩; have W2 := Aside0.mk hb; clear hb)) | ((with_reducible refine gate_dst (N := 9) rfl ?_); refine box_event ?hg (N := 9) ?hd (cs := #[.int .i64 0, .int .i64 0, .int .u32 0, .int .u32 0, .int .u32 0, .int .u32 0, .int .u32 0, .int .u32 0, .int .u32 0, .int .u32 0, .int .u32 0, .int .u32 0, .int .u32 0, .int .u32 0, .int .u32 0, .int .u32 0, .int .u32 0, .int .u32 0, .int .u32 0, .int .u32 0, .bool false, .int .u32 0]) (t := 56) ?hr ?_; (case hd => rfl); (case hg => rfl); (case hr => first | (go_simp; done) | (go_simp; rfl)); intro gs hg w3 hbox hb; have hE : Aside0 (RunB w w3 gd gs #[.int .u32 d0, .int .u32 d1, .int .u64 d2, .int .u64 d3, .int .u64 d4, .int .u64 d5, .int .u64 d6, .int .u64 d7, .int .u64 d8] #[.int .i64 0, .int .i64 0, .int .u32 0, .int .u32 0, .int .u32 0, .int .u32 0, .int .u32 0, .int .u32 0, .int .u32 0, .int .u32 0, .int .u32 0, .int .u32 0, .int .u32 0, .int .u32 0, .int .u32 0, .int .u32 0, .int .u32 0, .int .u32 0, .int .u32 0, .int .u32 0, .bool false, .int .u32 0]) := ⟨⟨blk_below (blk_below B1.out W2.out) hb, hbox, below_step (below_step (below_step (Below.refl w.heap.size w) W1.out) W2.out) hb, by rw [hg]; exact Nat.le_trans W1.out.size W2.out.size, by rw [hg]; exact Nat.ne_of_gt (blk_lt (blk_below B1.out W2.out))⟩⟩; clear hg hbox hb) | ((with_reducible refine gate_store (t := 56) (p := 9) rfl ?_); refine wpList_store_row rfl 56 (.tmp 9) (.tmp 19) rfl gs (#[.int .i64 0, .int .i64 0, .int .u32 0, .int .u32 0, .int .u32 0, .int .u32 0, .int .u32 0, .int .u32 0, .int .u32 0, .int .u32 0, .int .u32 0, .int .u32 0, .int .u32 0, .int .u32 0, .int .u32 0, .int .u32 0, .int .u32 0, .int .u32 0, .int .u32 0, .int .u32 0, .bool false, .int .u32 0]) rfl rfl 56 _ (hE).out.bs (by kernel_rfl) rfl (by simp [Value.oneCell']) ?_; have hE2 := Aside0.mk (hE.out.row #[.int .i64 0, .int .i64 0, .int .u32 0, .int .u32 0, .int .u32 0, .int .u32 0, .int .u32 0, .int .u32 0, .int .u32 0, .int .u32 0, .int .u32 0, .int .u32 0, .int .u32 0, .int .u32 0, .int .u32 0, .int .u32 0, .int .u32 0, .int .u32 0, .int .u32 0, .int .u32 0, .bool false, .int .u32 0] rfl); clear hE))
    go_loopg [8, 10] k (fun kq v8 v10 w' => ∃ (c T n : Int) (s : StS) (L : List Int), v10 = .int .i64 c ∧ Aside0 (fairleadref06_Trace.l0 kq l0 c d0 d1 d2 d3 d4 d5 d6 d7 d8 T n s L = some (r1, r2)) ∧ Aside0 (Kd.R (Kd.int .i64) 3 w' w.heap.size (fun k => k ≠ gs ∧ k ≠ gd) v8 L) ∧ Aside0 (RunB w w' gd gs #[.int .u32 d0, .int .u32 d1, .int .u64 d2, .int .u64 d3, .int .u64 d4, .int .u64 d5, .int .u64 d6, .int .u64 d7, .int .u64 d8] (stA T n s)))
    case atStart => exact ⟨0, 0, 0, ⟨0, 0, false, 0, fun _ => 0⟩, [], rfl, H', ⟨Kd.R_nil _ _ _ _ _⟩, hE2⟩
    case round =>
      clear H' hE2 W1 W2 B1 GD
      obtain ⟨c, T, n, s, L, rfl, HA, hO, hR⟩ := hrel
      cases gk with
      | zero => exact absurd HA.out (by simp [fairleadref06_Trace.l0])
      | succ k1 =>
        have H := HA.out
        clear HA
        simp only [fairleadref06_Trace.l0] at H
        have q0 := (blk_cell hR.out.bs 0).trans (show _ = some (.int .i64 T : Value) from rfl)
        have q20 := (blk_cell hR.out.bs 20).trans (show _ = some (.bool s.o : Value) from rfl)
        by_cases hc : c ≤ (l0.length : Int)
        · rw [if_pos hc] at H
          have hc1 := decide_eq_true hc
          clear hc
          by_cases ho : s.o = true
          · rw [if_pos ho] at H
            rw [ho] at q20
            simp only [Option.some.injEq, Prod.mk.injEq] at H
            obtain ⟨rfl, rfl⟩ := H
            clear ho
            go_wp2
            go_ret2
            exact ⟨_, rfl, Kd.R_mono hO.out (fun _ _ => trivial), hR.out.below⟩
          · rw [if_neg ho] at H
            have ho2 : s.o = false := by simpa using ho
            rw [ho2] at q20
            clear ho ho2
            by_cases hT : 0 ≤ T ∧ T < (l0.length : Int) ∧ L.length < 1000000000
            · rw [if_pos hT] at H
              obtain ⟨⟨T2, s2⟩, A4, H⟩ := Option.bind_eq_some_iff.mp H
              have A4 := Aside0.mk A4
              have H' := Aside0.mk H
              have hT0 := Aside0.mk hT.1
              have hT1 := Aside0.mk hT.2.1
              have hL := Aside0.mk hT.2.2
              clear H hT
              go_wp2_with (first | (at_builtin; refine Kd.R_append (Kd.int .i64) (w0 := w) w.heap.size rfl (.tmp 31) (.tmp 34) 40 3 (.int .i64 0) 8 rfl Try.underlying40 info3 rfl (by decide) (by omega) u8 L T [.int .i64 T] (fun k => k ≠ gs ∧ k ≠ gd) (fun _ => False) (by rfl) (by first | (go_simp; done) | (go_simp; rfl)) ?aP (fun _ hk => hk.elim) (fun k hk => ⟨Nat.ne_of_gt (Nat.lt_of_lt_of_le (blk_lt hR.out.bs) hk), Nat.ne_of_gt (Nat.lt_of_lt_of_le (blk_lt hR.out.bd) hk)⟩) hO.out hR.out.below hR.out.below.size (by have := hL.out; omega) ?_; (case aP => exact rfl); intro v1 w1 ho hb hg hat; obtain ⟨A1, cap1, ev1⟩ := Kd.R_slice ho; subst ev1; have hO1 := Aside0.mk ho; have hRa : Aside0 (RunB w w1 gd gs #[.int .u32 d0, .int .u32 d1, .int .u64 d2, .int .u64 d3, .int .u64 d4, .int .u64 d5, .int .u64 d6, .int .u64 d7, .int .u64 d8] (stA T n s)) := ⟨⟨blk_grown hR.out.bd hg (fun e => (hO.out.1 gd e.symm).2 rfl), blk_grown hR.out.bs hg (fun e => (hO.out.1 gs e.symm).1 rfl), hb, hR.out.gs0, hR.out.sd⟩⟩; clear ho hb hg hat hR hO q0 q20) | ((with_reducible refine gate_dst (N := 37) rfl ?_); refine wpList_load_row rfl 27 (.tmp 3) rfl gd rfl 27 (#[.int .u32 d0, .int .u32 d1, .int .u64 d2, .int .u64 d3, .int .u64 d4, .int .u64 d5, .int .u64 d6, .int .u64 d7, .int .u64 d8]) (0, 0) _ hRa.out.bd Try.underlying27 rfl (by kernel_rfl) ?_) | ((with_reducible refine gate_dst (N := 38) rfl ?_); refine wpList_load_row rfl 56 (.tmp 9) rfl gs rfl 56 (stA T n s) (0, 0) _ hRa.out.bs Try.underlying56 rfl (by kernel_rfl) ?_) | ((go_at_call 20; (refine (fairleadref06_Step.gcalls k1 _ _ l0 d0 d1 d2 d3 d4 d5 d6 d7 d8 T n _ _ _ _ s T2 s2 _ (Kd.C_below HR0.out hRa.out.below) HC0.out hT0.out hT1.out rfl A4.out).mono ?_); rintro e w4 ⟨rfl, hb⟩; have hR2 := Aside0.mk (hRa.out.call hb); have hO2 := Aside0.mk (Kd.R_below hO1.out hb); clear hb hRa hO1)) | ((with_reducible refine gate_store (t := 56) (p := 9) rfl ?_); refine wpList_store_row rfl 56 (.tmp 9) (.tmp 39) rfl gs (stA T2 (wrap64 (n + 1)) s2) rfl rfl 56 _ hR2.out.bs (by kernel_rfl) rfl (stA_one _ _ _) ?_; have hR3 := Aside0.mk (hR2.out.row (stA T2 (wrap64 (n + 1)) s2) rfl); have hO3 := Aside0.mk (Kd.R_step hO2.out (fun k ho _ => setRow_other _ gs k (stA T2 (wrap64 (n + 1)) s2) ho.1)); clear hR2 hO2))
              go_roundg k1
              case measure => omega
              case rel => exact ⟨wrap64 (c + 1), T2, wrap64 (n + 1), s2, L ++ [T], by first | rfl | (simp only [i64_w]), H', by first | exact hO3 | (refine ⟨?_⟩; have h_ := hO3.out; simpa using h_), hR3⟩
            · rw [if_neg hT] at H; cases H
        · rw [if_neg hc] at H
          have hc1 := decide_eq_false hc
          clear hc
          simp only [Option.some.injEq, Prod.mk.injEq] at H
          obtain ⟨rfl, rfl⟩ := H
          go_wp2
          go_ret2
          exact ⟨_, rfl, Kd.R_mono hO.out (fun _ _ => trivial), hR.out.below⟩
  · replace H := (if_neg c4).symm.trans H
    have c4b0 : (t1 == 0) = false := beq_eq_false_iff_ne.mpr c4
    have c4b1 : (t1 != 0) = true := bne_iff_ne.mpr c4
    clear c4
    simp only [Option.some.injEq, Prod.mk.injEq] at H
    obtain ⟨rfl, rfl⟩ := H
    go_enter Try.func13, Try.ntmps13
    go_wp2_with (first | ((with_reducible refine gate_dst (N := 3) rfl ?_); refine box_event ?hg (N := 3) ?hd (cs := #[.int .u32 d0, .int .u32 d1, .int .u64 d2, .int .u64 d3, .int .u64 d4, .int .u64 d5, .int .u64 d6, .int .u64 d7, .int .u64 d8]) (t := 27) ?hr ?_; (case hd => rfl); (case hg => rfl); (case hr => first | (go_simp; done) | (go_simp; rfl)); intro gd hg w1 hbox hb; have GD := Aside0.mk hg; have B1 := Aside0.mk hbox; have W1 := Aside0.mk hb; clear hg hbox hb) | ((go_at_call 19; (refine (fairleadref05_Check.calls k _ _ l0 t1 t2 _ (Kd.C_below HR0.out W1.out) HC0.out A3.out).mono ?_); rintro e w2 ⟨rfl, hb⟩; have W2 := Aside0.mk hb; clear hb)))
    go_ret2
    exact ⟨_, rfl, Kd.R_nil _ _ _ _ _, below_step (below_step (Below.refl w.heap.size w) W1.out) W2.out⟩

end Go.Proofs.Ytdlmnmhlgacpnaa.M
