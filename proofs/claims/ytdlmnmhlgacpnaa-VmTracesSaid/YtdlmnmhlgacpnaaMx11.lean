-- Laid by a program (wip/tools/myprint.py) out of the loaded program's own print: for each Go function a Lean function and the proof of its contract.
import Derived.Test.YtdlmnmhlgacpnaaMx0
import Derived.Test.YtdlmnmhlgacpnaaMx7
import Derived.Test.YtdlmnmhlgacpnaaMx10
namespace Go.Proofs.Ytdlmnmhlgacpnaa.M
open Go.RowKit Go.Proofs.YtdlmnmhlgacpnaaW.PrintWords Go.Proofs.YtdlmnmhlgacpnaaW.PrintLast Go.Proofs.YtdlmnmhlgacpnaaW.PrintMore
attribute [local go_sem] max2_int min2_int max_two min_two max_three min_three max_four min_four   -- for this text's walks alone
set_option linter.unusedVariables false
set_option linter.unusedSimpArgs false

/-! ### fairleadref06_Run: function 11 -/
-- HAND rounds=True making=True
def fairleadref06_Run.l0 : Nat → List S37 → Int → Int → Int → Int → Int → Int → Int → Int → Int → Int → Int → Int → StS → Option (Int × Int × Int)
  | 0, _, _, _, _, _, _, _, _, _, _, _, _, _, _ => none
  | k + 1, l, c, d0, d1, d2, d3, d4, d5, d6, d7, d8, T, n, s => if c ≤ (l.length : Int) then (if s.o = true then some (s.r, n, 0) else if 0 ≤ T ∧ T < (l.length : Int) then (fairleadref06_Step.g k (rd_T37 l T).f0 (rd_T37 l T).f1 (rd_T37 l T).f2 (rd_T37 l T).f3 d0 d1 d2 d3 d4 d5 d6 d7 d8 (wrap64 (T + 1)) s).bind fun p => fairleadref06_Run.l0 k l (wrap64 (c + 1)) d0 d1 d2 d3 d4 d5 d6 d7 d8 p.1 (wrap64 (n + 1)) p.2 else none) else some (s.r, n, 0)
def fairleadref06_Run.f (k : Nat) (l : List S37) (d0 d1 d2 d3 d4 d5 d6 d7 d8 : Int) : Option (Int × Int × Int) := (fairleadref05_Check.f k l).bind fun t => if t.1 = 0 then fairleadref06_Run.l0 k l 0 d0 d1 d2 d3 d4 d5 d6 d7 d8 0 0 ⟨0, 0, false, 0, fun _ => 0⟩ else some (0, 0, t.1)
theorem fairleadref06_Run.mono_l : ∀ (k : Nat) (l : List S37) (c d0 d1 d2 d3 d4 d5 d6 d7 d8 T n : Int) (s : StS), LeO (fairleadref06_Run.l0 k l c d0 d1 d2 d3 d4 d5 d6 d7 d8 T n s) (fairleadref06_Run.l0 (k + 1) l c d0 d1 d2 d3 d4 d5 d6 d7 d8 T n s)
  | 0 => fun _ _ _ _ _ _ _ _ _ _ _ _ _ _ r h => by simp [fairleadref06_Run.l0] at h
  | k + 1 => by
    have ih := fairleadref06_Run.mono_l k
    intro l c d0 d1 d2 d3 d4 d5 d6 d7 d8 T n s
    unfold fairleadref06_Run.l0
    exact LeO.ite (LeO.ite (LeO.refl _) (LeO.ite (LeO.bind (fairleadref06_Step.mono_g _ _ _ _ _ _ _ _ _ _ _ _ _ _ _ _) (fun _ => ih _ _ _ _ _ _ _ _ _ _ _ _ _ _)) (LeO.refl _))) (LeO.refl _)
theorem fairleadref06_Run.mono : ∀ (l : List S37) (d0 d1 d2 d3 d4 d5 d6 d7 d8 : Int) (k : Nat), LeO (fairleadref06_Run.f k l d0 d1 d2 d3 d4 d5 d6 d7 d8) (fairleadref06_Run.f (k + 1) l d0 d1 d2 d3 d4 d5 d6 d7 d8) := by
  intro l d0 d1 d2 d3 d4 d5 d6 d7 d8 k
  unfold fairleadref06_Run.f
  exact LeO.bind (fairleadref05_Check.mono _ _) (fun _ => LeO.ite (fairleadref06_Run.mono_l _ _ _ _ _ _ _ _ _ _ _ _ _ _ _) (LeO.refl _))
/-- The blocks of a run. -/
structure RunB (w0 w : World) (gd gs : Nat) (D S : Array Value) : Prop where
  bd : w.heap[gd]? = some (.cells D 27 (0, 0))
  bs : w.heap[gs]? = some (.cells S 56 (0, 0))
  below : Below w0.heap.size w0 w
  gs0 : w0.heap.size ≤ gs
  sd : gs ≠ gd
theorem RunB.call {w0 w w' : World} {gd gs : Nat} {D S : Array Value} (h : RunB w0 w gd gs D S) (hb : Below w.heap.size w w') : RunB w0 w' gd gs D S :=
  ⟨blk_below h.bd hb, blk_below h.bs hb, below_step h.below hb, h.gs0, h.sd⟩
theorem RunB.row {w0 w : World} {gd gs : Nat} {D S : Array Value} (h : RunB w0 w gd gs D S) (S' : Array Value) (hl : S.size = S'.size) : RunB w0 (w.setRow gs S') gd gs D S' :=
  ⟨(setRow_other w gs gd S' (Ne.symm h.sd)).trans h.bd, setRow_heap w gs S S' 56 (0, 0) h.bs, step_setRow h.below h.gs0 S', h.gs0, h.sd⟩
set_option maxHeartbeats 8000000 in
set_option maxRecDepth 100000 in
theorem fairleadref06_Run.calls (k : Nat) (A0 : Option Addr) (c0 : Nat) (l0 : List S37) (d0 d1 d2 d3 d4 d5 d6 d7 d8 : Int) (r1 : Int) (r2 : Int) (r3 : Int) (w : World) (hr0 : Kd.C k37 w A0 l0.length l0) (hc0 : l0.length ≤ c0) (h : fairleadref06_Run.f k l0 d0 d1 d2 d3 d4 d5 d6 d7 d8 = some (r1, r2, r3)) :
  Calls Try.prog 11 #[.slice A0 l0.length c0, .agg #[.int .u32 d0, .int .u32 d1, .int .u64 d2, .int .u64 d3, .int .u64 d4, .int .u64 d5, .int .u64 d6, .int .u64 d7, .int .u64 d8]] w fun e w' => e = .returned (.tuple #[.int .u32 r1, .int .i64 r2, .int .i64 r3]) ∧ Below w.heap.size w w' := by
  have hu27_ := Try.underlying27
  have hu56_ := Try.underlying56
  have HR0 := Aside0.mk hr0
  have HC0 := Aside0.mk hc0
  clear hr0 hc0
  obtain ⟨⟨t1, t2⟩, A30, H⟩ := Option.bind_eq_some_iff.mp h
  have A3 := Aside0.mk A30
  clear A30 h
  by_cases c4 : t1 = 0
  · replace H := (if_pos c4).symm.trans H
    have c4b0 : (t1 == 0) = true := beq_iff_eq.mpr c4
    have c4b1 : (t1 != 0) = false := bne_eq_false_iff_eq.mpr c4
    clear c4
    have H' := Aside0.mk H
    clear H
    go_enter Try.func11, Try.ntmps11
    go_wp2_with (first | ((with_reducible refine gate_dst (N := 3) rfl ?_); refine box_event ?hg (N := 3) ?hd (cs := #[.int .u32 d0, .int .u32 d1, .int .u64 d2, .int .u64 d3, .int .u64 d4, .int .u64 d5, .int .u64 d6, .int .u64 d7, .int .u64 d8]) (t := 27) ?hr ?_; (case hd => rfl); (case hg => rfl); (case hr => first | (go_simp; done) | (go_simp; rfl)); intro gd hg w1 hbox hb; have GD := Aside0.mk hg; have B1 := Aside0.mk hbox; have W1 := Aside0.mk hb; clear hg hbox hb) | ((go_at_call 19; (refine (fairleadref05_Check.calls k _ _ l0 t1 t2 _ (Kd.C_below HR0.out W1.out) HC0.out A3.out).mono ?_); rintro e w2 ⟨rfl, hb⟩; have W2 := Aside0.mk hb; clear hb)) | ((with_reducible refine gate_dst (N := 9) rfl ?_); refine box_event ?hg (N := 9) ?hd (cs := #[.int .i64 0, .int .i64 0, .int .u32 0, .int .u32 0, .int .u32 0, .int .u32 0, .int .u32 0, .int .u32 0, .int .u32 0, .int .u32 0, .int .u32 0, .int .u32 0, .int .u32 0, .int .u32 0, .int .u32 0, .int .u32 0, .int .u32 0, .int .u32 0, .int .u32 0, .int .u32 0, .bool false, .int .u32 0]) (t := 56) ?hr ?_; (case hd => rfl); (case hg => rfl); (case hr => first | (go_simp; done) | (go_simp; rfl)); intro gs hg w3 hbox hb; have hE : Aside0 (RunB w w3 gd gs #[.int .u32 d0, .int .u32 d1, .int .u64 d2, .int .u64 d3, .int .u64 d4, .int .u64 d5, .int .u64 d6, .int .u64 d7, .int .u64 d8] #[.int .i64 0, .int .i64 0, .int .u32 0, .int .u32 0, .int .u32 0, .int .u32 0, .int .u32 0, .int .u32 0, .int .u32 0, .int .u32 0, .int .u32 0, .int .u32 0, .int .u32 0, .int .u32 0, .int .u32 0, .int .u32 0, .int .u32 0, .int .u32 0, .int .u32 0, .int .u32 0, .bool false, .int .u32 0]) := ⟨⟨blk_below (blk_below B1.out W2.out) hb, hbox, below_step (below_step (below_step (Below.refl w.heap.size w) W1.out) W2.out) hb, by rw [hg]; exact Nat.le_trans W1.out.size W2.out.size, by rw [hg]; exact Nat.ne_of_gt (blk_lt (blk_below B1.out W2.out))⟩⟩; clear hg hbox hb) | ((with_reducible refine gate_store (t := 56) (p := 9) rfl ?_); refine wpList_store_row rfl 56 (.tmp 9) (.tmp 19) rfl gs (#[.int .i64 0, .int .i64 0, .int .u32 0, .int .u32 0, .int .u32 0, .int .u32 0, .int .u32 0, .int .u32 0, .int .u32 0, .int .u32 0, .int .u32 0, .int .u32 0, .int .u32 0, .int .u32 0, .int .u32 0, .int .u32 0, .int .u32 0, .int .u32 0, .int .u32 0, .int .u32 0, .bool false, .int .u32 0]) rfl rfl 56 _ (hE).out.bs (by kernel_rfl) rfl (by simp [Value.oneCell']) ?_; have hE2 := Aside0.mk (hE.out.row #[.int .i64 0, .int .i64 0, .int .u32 0, .int .u32 0, .int .u32 0, .int .u32 0, .int .u32 0, .int .u32 0, .int .u32 0, .int .u32 0, .int .u32 0, .int .u32 0, .int .u32 0, .int .u32 0, .int .u32 0, .int .u32 0, .int .u32 0, .int .u32 0, .int .u32 0, .int .u32 0, .bool false, .int .u32 0] rfl); clear hE))
    go_loopg [10] k (fun kq v10 w' => ∃ (c T n : Int) (s : StS), v10 = .int .i64 c ∧ Aside0 (fairleadref06_Run.l0 kq l0 c d0 d1 d2 d3 d4 d5 d6 d7 d8 T n s = some (r1, r2, r3)) ∧ Aside0 (RunB w w' gd gs #[.int .u32 d0, .int .u32 d1, .int .u64 d2, .int .u64 d3, .int .u64 d4, .int .u64 d5, .int .u64 d6, .int .u64 d7, .int .u64 d8] (stA T n s)))
    case atStart => exact ⟨0, 0, 0, ⟨0, 0, false, 0, fun _ => 0⟩, rfl, H', hE2⟩
    case round =>
      clear H' hE2 W1 W2 B1 GD
      obtain ⟨c, T, n, s, rfl, HA, hR⟩ := hrel
      cases gk with
      | zero => exact absurd HA.out (by simp [fairleadref06_Run.l0])
      | succ k1 =>
        have H := HA.out
        clear HA
        simp only [fairleadref06_Run.l0] at H
        have q1 := (blk_cell hR.out.bs 1).trans (show _ = some (.int .i64 n : Value) from rfl)
        have q20 := (blk_cell hR.out.bs 20).trans (show _ = some (.bool s.o : Value) from rfl)
        have q21 := (blk_cell hR.out.bs 21).trans (show _ = some (.int .u32 s.r : Value) from rfl)
        by_cases hc : c ≤ (l0.length : Int)
        · rw [if_pos hc] at H
          have hc1 := decide_eq_true hc
          clear hc
          by_cases ho : s.o = true
          · rw [if_pos ho] at H
            rw [ho] at q20
            simp only [Option.some.injEq, Prod.mk.injEq] at H
            obtain ⟨rfl, rfl, rfl⟩ := H
            clear ho
            go_wp2
            go_region_held3 (fun w' => w'.cell? ⟨gs, 21, none⟩ = some (.int .u32 s.r) ∧ w'.cell? ⟨gs, 1, none⟩ = some (.int .i64 n)) (first | go_keep | exact ⟨q21, q1⟩) (fail)
            go_wp2
            go_ret3
            exact ⟨rfl, hR.out.below.trans (below_drew1 (Below.refl _ _))⟩
          · rw [if_neg ho] at H
            have ho2 : s.o = false := by simpa using ho
            rw [ho2] at q20
            clear ho ho2
            by_cases hT : 0 ≤ T ∧ T < (l0.length : Int)
            · rw [if_pos hT] at H
              obtain ⟨⟨T2, s2⟩, A4, H⟩ := Option.bind_eq_some_iff.mp H
              have A4 := Aside0.mk A4
              have H' := Aside0.mk H
              have hT0 := Aside0.mk hT.1
              have hT1 := Aside0.mk hT.2
              clear H hT
              go_wp2_with (first | ((with_reducible refine gate_dst (N := 32) rfl ?_); refine wpList_load_row rfl 27 (.tmp 3) rfl gd rfl 27 (#[.int .u32 d0, .int .u32 d1, .int .u64 d2, .int .u64 d3, .int .u64 d4, .int .u64 d5, .int .u64 d6, .int .u64 d7, .int .u64 d8]) (0, 0) _ hR.out.bd Try.underlying27 rfl (by kernel_rfl) ?_) | ((with_reducible refine gate_dst (N := 33) rfl ?_); refine wpList_load_row rfl 56 (.tmp 9) rfl gs rfl 56 (stA T n s) (0, 0) _ hR.out.bs Try.underlying56 rfl (by kernel_rfl) ?_) | ((go_at_call 20; (refine (fairleadref06_Step.gcalls k1 _ _ l0 d0 d1 d2 d3 d4 d5 d6 d7 d8 T n _ _ _ _ s T2 s2 _ (Kd.C_below HR0.out hR.out.below) HC0.out hT0.out hT1.out rfl A4.out).mono ?_); rintro e w4 ⟨rfl, hb⟩; have hR2 := Aside0.mk (hR.out.call hb); clear hb hR q1 q20 q21)) | ((with_reducible refine gate_store (t := 56) (p := 9) rfl ?_); refine wpList_store_row rfl 56 (.tmp 9) (.tmp 34) rfl gs (stA T2 (wrap64 (n + 1)) s2) rfl rfl 56 _ hR2.out.bs (by kernel_rfl) rfl (stA_one _ _ _) ?_; have hR3 := Aside0.mk (hR2.out.row (stA T2 (wrap64 (n + 1)) s2) rfl); clear hR2))
              go_roundg k1
              case measure => omega
              case rel => exact ⟨wrap64 (c + 1), T2, wrap64 (n + 1), s2, by first | rfl | (simp only [i64_w]), H', hR3⟩
            · rw [if_neg hT] at H; cases H
        · rw [if_neg hc] at H
          have hc1 := decide_eq_false hc
          clear hc
          simp only [Option.some.injEq, Prod.mk.injEq] at H
          obtain ⟨rfl, rfl, rfl⟩ := H
          go_wp2
          go_region_held3 (fun w' => w'.cell? ⟨gs, 21, none⟩ = some (.int .u32 s.r) ∧ w'.cell? ⟨gs, 1, none⟩ = some (.int .i64 n)) (first | go_keep | exact ⟨q21, q1⟩) (fail)
          go_wp2
          go_ret3
          exact ⟨rfl, hR.out.below.trans (below_drew1 (Below.refl _ _))⟩
  · replace H := (if_neg c4).symm.trans H
    have c4b0 : (t1 == 0) = false := beq_eq_false_iff_ne.mpr c4
    have c4b1 : (t1 != 0) = true := bne_iff_ne.mpr c4
    clear c4
    simp only [Option.some.injEq, Prod.mk.injEq] at H
    obtain ⟨rfl, rfl, rfl⟩ := H
    go_enter Try.func11, Try.ntmps11
    go_wp2_with (first | ((with_reducible refine gate_dst (N := 3) rfl ?_); refine box_event ?hg (N := 3) ?hd (cs := #[.int .u32 d0, .int .u32 d1, .int .u64 d2, .int .u64 d3, .int .u64 d4, .int .u64 d5, .int .u64 d6, .int .u64 d7, .int .u64 d8]) (t := 27) ?hr ?_; (case hd => rfl); (case hg => rfl); (case hr => first | (go_simp; done) | (go_simp; rfl)); intro gd hg w1 hbox hb; have GD := Aside0.mk hg; have B1 := Aside0.mk hbox; have W1 := Aside0.mk hb; clear hg hbox hb) | ((go_at_call 19; (refine (fairleadref05_Check.calls k _ _ l0 t1 t2 _ (Kd.C_below HR0.out W1.out) HC0.out A3.out).mono ?_); rintro e w2 ⟨rfl, hb⟩; have W2 := Aside0.mk hb; clear hb)))
    go_ret3
    exact ⟨rfl, below_step (below_step (Below.refl w.heap.size w) W1.out) W2.out⟩

end Go.Proofs.Ytdlmnmhlgacpnaa.M
