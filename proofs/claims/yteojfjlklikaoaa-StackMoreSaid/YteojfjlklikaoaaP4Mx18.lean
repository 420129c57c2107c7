-- Laid by a program (wip/tools/myprint.py) out of the loaded program's own print: for each Go function a Lean function and the proof of its contract.
import Derived.Test.YteojfjlklikaoaaP4Mx0
import Derived.Test.YteojfjlklikaoaaP4Mx3
import Derived.Test.YteojfjlklikaoaaP4Mx5
import Derived.Test.YteojfjlklikaoaaP4Mx6
import Derived.Test.YteojfjlklikaoaaP4Mx7
import Derived.Test.YteojfjlklikaoaaP4Mx13
import Derived.Test.YteojfjlklikaoaaP4Mx16
namespace Go.Proofs.Yteojfjlklikaoaa.M
open Go.RowKit Go.Proofs.YteojfjlklikaoaaW.PrintWords Go.Proofs.YteojfjlklikaoaaW.PrintLast Go.Proofs.YteojfjlklikaoaaW.PrintMore
attribute [local go_sem] max2_int min2_int max_two min_two max_three min_three max_four min_four   -- for this text's walks alone
set_option linter.unusedVariables false
set_option linter.unusedSimpArgs false
-- HAND rounds=True making=True
/-- What StackMore asks of the functions below. -/
def fairleadlaw15_StackMore.P (k : Nat) (L : List (List S53)) (M : List S53) (d0 d1 d2 d3 d4 d5 d6 d7 d8 : Int) : Prop := fairleadlaw15_awake.P k ∧ ∃ b, fairleadlaw15_few.f k L = some b ∧ (b = true → M.length ≤ 5000 → L.length ≤ 40 ∧ ∃ (ck val : List S53 → Int) (m m2 km km2 am am2 p : Int), (∀ l ∈ L, ∃ p, check_Check.f k l = some (ck l, p)) ∧ (∀ l ∈ L, ck l = 0 → 1 ≤ l.length ∧ l.length ≤ 4096) ∧ check_Check.f k M = some (ck M, p) ∧ (ck M = 0 → M.length ≤ 4096) ∧ (∀ l ∈ (ATT (ck M) (BUILT ck L) (costOf (BUILT ck L)) M).2.1, ∃ n e, vm_Run.f k l d0 d1 d2 d3 d4 d5 d6 d7 d8 = some (val l, n, e)) ∧ (∀ l ∈ BUILT ck L, ∃ n e, vm_Run.f k l d0 d1 d2 d3 d4 d5 d6 d7 d8 = some (val l, n, e)) ∧ act_Most.f k (stVals val (BUILT ck L)) = some m ∧ act_Most.f k (stVals val (ATT (ck M) (BUILT ck L) (costOf (BUILT ck L)) M).2.1) = some m2 ∧ fairleadref07_Of.f k m = some (km, am) ∧ fairleadref07_Of.f k m2 = some (km2, am2) ∧ km2 ≤ km ∧ ((stFind m2 (stVals val (ATT (ck M) (BUILT ck L) (costOf (BUILT ck L)) M).2.1) (((ATT (ck M) (BUILT ck L) (costOf (BUILT ck L)) M).2.1.length : Int) - 1) = stFind m (stVals val (BUILT ck L)) (((BUILT ck L).length : Int) - 1) ∧ m2 = m) ∨ stFind m2 (stVals val (ATT (ck M) (BUILT ck L) (costOf (BUILT ck L)) M).2.1) (((ATT (ck M) (BUILT ck L) (costOf (BUILT ck L)) M).2.1.length : Int) - 1) = ((ATT (ck M) (BUILT ck L) (costOf (BUILT ck L)) M).2.1.length : Int) - 1))
set_option maxHeartbeats 8000000 in
set_option maxRecDepth 100000 in
theorem fairleadlaw15_StackMore.calls (k : Nat) (A0 : Option Addr) (c0 : Nat) (L : List (List S53)) (A1 : Option Addr) (c1 : Nat) (M : List S53) (d0 d1 d2 d3 d4 d5 d6 d7 d8 : Int) (r : Bool) (w : World) (hr : Kd.C (Kd.slice 53 k53) w A0 L.length L) (hc : L.length ≤ c0) (hr1 : Kd.C k53 w A1 M.length M) (hc1 : M.length ≤ c1) (h : fairleadlaw15_StackMore.P k L M d0 d1 d2 d3 d4 d5 d6 d7 d8 ∧ r = true) :
    Calls Try.prog 5 #[.slice A0 L.length c0, .slice A1 M.length c1, .agg #[.int .u32 d0, .int .u32 d1, .int .u64 d2, .int .u64 d3, .int .u64 d4, .int .u64 d5, .int .u64 d6, .int .u64 d7, .int .u64 d8]] w fun e w' => e = .returned (.bool r) ∧ Below w.heap.size w w' := by
  obtain ⟨⟨ha, b, hf, hb⟩, rfl⟩ := h
  have HR := Aside0.mk hr
  have HC := Aside0.mk hc
  have HR1 := Aside0.mk hr1
  have HC1 := Aside0.mk hc1
  have HA := Aside0.mk ha
  have HF := Aside0.mk hf
  have hu27_ := Try.underlying27
  have hu46_ := Try.underlying46
  have hfd46 := fun (cs_ : Array Value) (j_ : Nat) (w_ : World) => Mine.run_field (P := Try.prog) Try.underlying46 cs_ j_ w_
  clear hr hc ha hf hr1 hc1
  cases b with
  | false =>
    clear hb
    go_enter Try.func5, Try.ntmps5
    go_wp2_with (first | ((with_reducible refine gate_dst (N := 5) rfl ?_); refine box_event ?hg (N := 5) ?hd (cs := #[.int .u32 d0, .int .u32 d1, .int .u64 d2, .int .u64 d3, .int .u64 d4, .int .u64 d5, .int .u64 d6, .int .u64 d7, .int .u64 d8]) (t := 27) ?hr ?_; (case hd => rfl); (case hg => rfl); (case hr => first | (go_simp; done) | (go_simp; rfl)); intro gd hg w1 hbox hb; have W1 := Aside0.mk hb; have BD := Aside0.mk hbox; have GD := Aside0.mk hg; clear hg hbox hb) | (go_at_call 8; (refine (fairleadlaw15_awake.sk k _ HA.out).mono ?_); rintro e w2 ⟨rfl, hb⟩; have W2 := Aside0.mk (below_step W1.out hb); have BD2 := Aside0.mk (blk_below BD.out hb); clear hb) | (go_at_call 9; (refine (fairleadlaw15_few.calls k _ _ L false _ (Kd.C_below HR.out W2.out) HC.out HF.out).mono ?_); rintro e w3 ⟨rfl, hb⟩; have W3 := Aside0.mk (below_step W2.out hb); have BD3 := Aside0.mk (blk_below BD2.out hb); clear hb))
    go_ret
    exact ⟨rfl, W3.out⟩
  | true =>
    by_cases hM : M.length ≤ 5000
    · obtain ⟨hL, ck, val, m, m2, km, km2, am, am2, p_, h1, h3, hM1, hM2, h5, h4, h6, h7, h8, h9, h10, h11⟩ := hb rfl hM
      obtain ⟨B, hB⟩ : ∃ B, B = BUILT ck L := ⟨_, rfl⟩
      have hfit := fit_built ck L L (fun l hl => hl)
      rw [← hB] at h4 h5 h6 h7 h11 hfit
      have hci := costOf_in B (fun l hl => (h3 l (hfit.mem l hl).1 (hfit.mem l hl).2).2)
      have hcost := hfit.cost
      obtain ⟨co, hco⟩ : ∃ co, co = costOf B := ⟨_, rfl⟩
      have HCo := Aside0.mk hco
      rw [← hco] at hci hcost h5 h7 h11
      have hcase := att_cases (ck M) B co M
      obtain ⟨er, her⟩ : ∃ er, er = (ATT (ck M) B co M).1 := ⟨_, rfl⟩
      obtain ⟨B2, hB2⟩ : ∃ B2, B2 = (ATT (ck M) B co M).2.1 := ⟨_, rfl⟩
      obtain ⟨co2, hco2⟩ : ∃ co2, co2 = (ATT (ck M) B co M).2.2 := ⟨_, rfl⟩
      rw [← hB2] at h5 h7 h11
      obtain ⟨X, hX⟩ : ∃ X, X = stFind m (stVals val B) ((B.length : Int) - 1) := ⟨_, rfl⟩
      obtain ⟨X2, hX2⟩ : ∃ X2, X2 = stFind m2 (stVals val B2) ((B2.length : Int) - 1) := ⟨_, rfl⟩
      rw [← hX, ← hX2] at h11
      have hlen2 : B2.length ≤ 32 := by
        rcases hcase with h | h
        · rw [hB2, h.2]; exact hfit.len
        · rw [hB2, h.2.2.2]; simp; omega
      have HEr := Aside0.mk her
      have HB2 := Aside0.mk hB2
      have HCo2 := Aside0.mk hco2
      have HX := Aside0.mk hX
      have HX2 := Aside0.mk hX2
      have HB := Aside0.mk hB
      have H1 := Aside0.mk h1
      have H3 := Aside0.mk h3
      have H4' := Aside0.mk h4
      have H5 := Aside0.mk h5
      have H6 := Aside0.mk h6
      have H7 := Aside0.mk h7
      have H8 := Aside0.mk h8
      have H9 := Aside0.mk h9
      have HM1 := Aside0.mk hM1
      have HM2 := Aside0.mk hM2
      have HLen := Aside0.mk hfit.len
      have HLen2 := Aside0.mk hlen2
      have k0 : 0 ≤ co := hci.1
      have k1 : co ≤ 32768 := hcost
      have g1 : decide (5000 < (M.length : Int)) = false := decide_eq_false (by omega)
      have g2 : decide (5000 < M.length) = false := decide_eq_false (by omega)
      have g3 : (M.length : Int) ≤ 5000 := by omega
      by_cases h0 : er = 0
      · have hc2 : co2 = co + (M.length : Int) + 4 := by
          rcases hcase with h | h
          · exact absurd (h0 ▸ her.symm) h.1
          · rw [hco2, h.2.2.2]
        have e1 : (er == 0) = true := beq_iff_eq.2 h0
        have e2 : (er != 0) = false := bne_eq_false_iff_eq.2 h0
        have e3 : decide (km2 ≤ km) = true := decide_eq_true h10
        have e4 : (co2 == co + (M.length : Int) + 4) = true := beq_iff_eq.2 hc2
        have hw : IntKind.i64.wrap ((B2.length : Int) - 1) = (B2.length : Int) - 1 := by rw [i64_w]; unfold wrap64; omega
        have hX3 : (X = X2 ∧ m = m2) ∨ (X2 = (B2.length : Int) - 1 ∧ X = (B2.length : Int) - 1 ∧ (m2 == m) = false) ∨ (X2 = (B2.length : Int) - 1 ∧ ((B2.length : Int) - 1 == X) = false) := by
          rcases h11 with h | h
          · exact .inl ⟨h.1.symm, h.2.symm⟩
          · by_cases x1 : X2 = X
            · by_cases x2 : m2 = m
              · exact .inl ⟨x1.symm, x2.symm⟩
              · exact .inr (.inl ⟨h, by rw [← x1, h], beq_eq_false_iff_ne.2 x2⟩)
            · exact .inr (.inr ⟨h, beq_eq_false_iff_ne.2 (fun e => x1 (by rw [h, e]))⟩)
        have q3 : ((B2.length : Int) - 1 == (B2.length : Int) - 1) = true := by simp
        clear hb h1 h3 h4 h5 h6 h7 h8 h9 h10 h11 hB hfit hci hcost hco hcase her hB2 hco2 hX hX2 hlen2 hM1 hM2 h0 hc2 hM
        rcases hX3 with ⟨x1, x2⟩ | ⟨rfl, rfl, x2⟩ | ⟨rfl, x1⟩
        · have y1 : (X2 == X) = true := beq_iff_eq.2 x1.symm
          have y2 : (m2 == m) = true := beq_iff_eq.2 x2.symm
          clear x1 x2
          go_enter Try.func5, Try.ntmps5
          go_wp2_with (first | ((with_reducible refine gate_dst (N := 5) rfl ?_); refine box_event ?hg (N := 5) ?hd (cs := #[.int .u32 d0, .int .u32 d1, .int .u64 d2, .int .u64 d3, .int .u64 d4, .int .u64 d5, .int .u64 d6, .int .u64 d7, .int .u64 d8]) (t := 27) ?hr ?_; (case hd => rfl); (case hg => rfl); (case hr => first | (go_simp; done) | (go_simp; rfl)); intro gd hg w1 hbox hb; have W1 := Aside0.mk hb; have BD := Aside0.mk hbox; have GD := Aside0.mk hg; clear hg hbox hb) | (go_at_call 8; (refine (fairleadlaw15_awake.sk k _ HA.out).mono ?_); rintro e w2 ⟨rfl, hb⟩; have W2 := Aside0.mk (below_step W1.out hb); have BD2 := Aside0.mk (blk_below BD.out hb); clear hb) | (go_at_call 9; (refine (fairleadlaw15_few.calls k _ _ L true _ (Kd.C_below HR.out W2.out) HC.out HF.out).mono ?_); rintro e w3 ⟨rfl, hb⟩; have W3 := Aside0.mk (below_step W2.out hb); have BD3 := Aside0.mk (blk_below BD2.out hb); clear hb) | (go_at_call 17; (refine (fairleadlaw15_built.sk k _ _ L ck _ (Kd.C_below HR.out W3.out) HC.out H1.out H3.out hL).mono ?_); intro e w4 h; obtain ⟨g, v4, rfl, hge, hb, hs, hrow⟩ := h; rw [← HB.out] at hs hrow; obtain ⟨A4, c4, rfl, hl4, hC4⟩ := rowIn_reads hrow hb; have HSk := Aside0.mk hs; have HRow := Aside0.mk hrow; have HCl := Aside0.mk hC4; have HLc := Aside0.mk hl4; have W4 := Aside0.mk (below_step W3.out hb); have BD4 := Aside0.mk (blk_below BD3.out hb); have HGe := Aside0.mk (Nat.le_trans W3.out.size hge); have HGD := Aside0.mk (show gd ≠ g from fun e => by have := blk_lt BD3.out; omega); clear hge hb hs hrow hl4 hC4) | ((with_reducible refine gate_dst (N := 35) rfl ?_); refine wpList_load_row rfl 27 (.tmp 5) rfl gd rfl 27 (#[.int .u32 d0, .int .u32 d1, .int .u64 d2, .int .u64 d3, .int .u64 d4, .int .u64 d5, .int .u64 d6, .int .u64 d7, .int .u64 d8]) (0, 0) _ BD4.out hu27_ rfl (by kernel_rfl) ?_) | ((with_reducible refine gate_dst (N := 46) rfl ?_); refine wpList_load_row rfl 27 (.tmp 5) rfl gd rfl 27 (#[.int .u32 d0, .int .u32 d1, .int .u64 d2, .int .u64 d3, .int .u64 d4, .int .u64 d5, .int .u64 d6, .int .u64 d7, .int .u64 d8]) (0, 0) _ BD7.out hu27_ rfl (by kernel_rfl) ?_) | (go_at_call 15; (refine (stack_Stack_Run.calls k g B (costOf B) d0 d1 d2 d3 d4 d5 d6 d7 d8 val m _ _ HSk.out H4'.out H6.out HLen.out).mono ?_); rintro e w6 ⟨he, hb⟩; rw [← HX.out] at he; subst he; have HB6 := Aside0.mk hb; have HSk6 := Aside0.mk (HSk.out.below hb); have BD6 := Aside0.mk (blk_below BD4.out hb); have W6 := Aside0.mk (below_step W4.out hb); clear hb) | (go_at_call 13; (refine (stack_Stack_Cost.sk g B _ _ _ HSk6.out).mono ?_); rintro e w7 ⟨he, rfl⟩; rw [← HCo.out] at he; subst he) | (go_at_call 10; (refine (stack_Stack_Attach.calls k A1 c1 M g B (costOf B) (ck M) p_ _ _ (Kd.C_below HR1.out W6.out) HC1.out HSk6.out HM1.out HM2.out HLen.out (by rw [← HCo.out]; exact k0) (by rw [← HCo.out]; exact k1)).mono ?_); rintro e w7 ⟨he, hbt, hs⟩; rw [← HCo.out] at he hs; rw [← HEr.out] at he; rw [← HB2.out, ← HCo2.out] at hs; subst he; have BD7 := Aside0.mk (hbt.blk BD6.out (fun e => HGD.out e)); have HS7 := Aside0.mk hs; have W7 := Aside0.mk (W6.out.trans (hbt.below (B := w.heap.size) (fun k hk e => by have := HGe.out; omega) W6.out.size)); clear hbt hs HSk6) | (go_at_call 15; (refine (stack_Stack_Run.calls k g B2 co2 d0 d1 d2 d3 d4 d5 d6 d7 d8 val m2 _ _ HS7.out H5.out H7.out HLen2.out).mono ?_); rintro e w8 ⟨he, hb⟩; rw [← HX2.out] at he; subst he; have HS8 := Aside0.mk (HS7.out.below hb); have W10 := Aside0.mk (below_step W7.out hb); clear hb) | (go_at_call 20; (with_reducible refine (fairleadref07_Of.calls k m2 km2 am2 _ H9.out).mono ?_); rintro e w9 ⟨rfl, hb⟩; have HS8 := Aside0.mk (HS8.out.below hb); have W10 := Aside0.mk (below_step W10.out hb); clear hb) | (go_at_call 20; (with_reducible refine (fairleadref07_Of.calls k m km am _ H8.out).mono ?_); rintro e w9 ⟨rfl, hb⟩; have HS8 := Aside0.mk (HS8.out.below hb); have W10 := Aside0.mk (below_step W10.out hb); clear hb) | (go_at_call 13; (refine (stack_Stack_Cost.sk g B2 _ _ _ HS8.out).mono ?_); rintro e w11 ⟨rfl, rfl⟩) | (go_at_call 12; (refine (stack_Stack_Len.sk g B2 _ _ _ HS8.out).mono ?_); rintro e w11 ⟨rfl, rfl⟩))
          go_ret
          exact ⟨rfl, W10.out⟩
        all_goals
          go_enter Try.func5, Try.ntmps5
          go_wp2_with (first | ((with_reducible refine gate_dst (N := 5) rfl ?_); refine box_event ?hg (N := 5) ?hd (cs := #[.int .u32 d0, .int .u32 d1, .int .u64 d2, .int .u64 d3, .int .u64 d4, .int .u64 d5, .int .u64 d6, .int .u64 d7, .int .u64 d8]) (t := 27) ?hr ?_; (case hd => rfl); (case hg => rfl); (case hr => first | (go_simp; done) | (go_simp; rfl)); intro gd hg w1 hbox hb; have W1 := Aside0.mk hb; have BD := Aside0.mk hbox; have GD := Aside0.mk hg; clear hg hbox hb) | (go_at_call 8; (refine (fairleadlaw15_awake.sk k _ HA.out).mono ?_); rintro e w2 ⟨rfl, hb⟩; have W2 := Aside0.mk (below_step W1.out hb); have BD2 := Aside0.mk (blk_below BD.out hb); clear hb) | (go_at_call 9; (refine (fairleadlaw15_few.calls k _ _ L true _ (Kd.C_below HR.out W2.out) HC.out HF.out).mono ?_); rintro e w3 ⟨rfl, hb⟩; have W3 := Aside0.mk (below_step W2.out hb); have BD3 := Aside0.mk (blk_below BD2.out hb); clear hb) | (go_at_call 17; (refine (fairleadlaw15_built.sk k _ _ L ck _ (Kd.C_below HR.out W3.out) HC.out H1.out H3.out hL).mono ?_); intro e w4 h; obtain ⟨g, v4, rfl, hge, hb, hs, hrow⟩ := h; rw [← HB.out] at hs hrow; obtain ⟨A4, c4, rfl, hl4, hC4⟩ := rowIn_reads hrow hb; have HSk := Aside0.mk hs; have HRow := Aside0.mk hrow; have HCl := Aside0.mk hC4; have HLc := Aside0.mk hl4; have W4 := Aside0.mk (below_step W3.out hb); have BD4 := Aside0.mk (blk_below BD3.out hb); have HGe := Aside0.mk (Nat.le_trans W3.out.size hge); have HGD := Aside0.mk (show gd ≠ g from fun e => by have := blk_lt BD3.out; omega); clear hge hb hs hrow hl4 hC4) | ((with_reducible refine gate_dst (N := 35) rfl ?_); refine wpList_load_row rfl 27 (.tmp 5) rfl gd rfl 27 (#[.int .u32 d0, .int .u32 d1, .int .u64 d2, .int .u64 d3, .int .u64 d4, .int .u64 d5, .int .u64 d6, .int .u64 d7, .int .u64 d8]) (0, 0) _ BD4.out hu27_ rfl (by kernel_rfl) ?_) | ((with_reducible refine gate_dst (N := 46) rfl ?_); refine wpList_load_row rfl 27 (.tmp 5) rfl gd rfl 27 (#[.int .u32 d0, .int .u32 d1, .int .u64 d2, .int .u64 d3, .int .u64 d4, .int .u64 d5, .int .u64 d6, .int .u64 d7, .int .u64 d8]) (0, 0) _ BD7.out hu27_ rfl (by kernel_rfl) ?_) | (go_at_call 15; (refine (stack_Stack_Run.calls k g B (costOf B) d0 d1 d2 d3 d4 d5 d6 d7 d8 val m _ _ HSk.out H4'.out H6.out HLen.out).mono ?_); rintro e w6 ⟨he, hb⟩; rw [← HX.out] at he; subst he; have HB6 := Aside0.mk hb; have HSk6 := Aside0.mk (HSk.out.below hb); have BD6 := Aside0.mk (blk_below BD4.out hb); have W6 := Aside0.mk (below_step W4.out hb); clear hb) | (go_at_call 13; (refine (stack_Stack_Cost.sk g B _ _ _ HSk6.out).mono ?_); rintro e w7 ⟨he, rfl⟩; rw [← HCo.out] at he; subst he) | (go_at_call 10; (refine (stack_Stack_Attach.calls k A1 c1 M g B (costOf B) (ck M) p_ _ _ (Kd.C_below HR1.out W6.out) HC1.out HSk6.out HM1.out HM2.out HLen.out (by rw [← HCo.out]; exact k0) (by rw [← HCo.out]; exact k1)).mono ?_); rintro e w7 ⟨he, hbt, hs⟩; rw [← HCo.out] at he hs; rw [← HEr.out] at he; rw [← HB2.out, ← HCo2.out] at hs; subst he; have BD7 := Aside0.mk (hbt.blk BD6.out (fun e => HGD.out e)); have HS7 := Aside0.mk hs; have W7 := Aside0.mk (W6.out.trans (hbt.below (B := w.heap.size) (fun k hk e => by have := HGe.out; omega) W6.out.size)); clear hbt hs HSk6) | (go_at_call 15; (refine (stack_Stack_Run.calls k g B2 co2 d0 d1 d2 d3 d4 d5 d6 d7 d8 val m2 _ _ HS7.out H5.out H7.out HLen2.out).mono ?_); rintro e w8 ⟨he, hb⟩; rw [← HX2.out] at he; subst he; have HS8 := Aside0.mk (HS7.out.below hb); have W10 := Aside0.mk (below_step W7.out hb); clear hb) | (go_at_call 20; (with_reducible refine (fairleadref07_Of.calls k m2 km2 am2 _ H9.out).mono ?_); rintro e w9 ⟨rfl, hb⟩; have HS8 := Aside0.mk (HS8.out.below hb); have W10 := Aside0.mk (below_step W10.out hb); clear hb) | (go_at_call 20; (with_reducible refine (fairleadref07_Of.calls k m km am _ H8.out).mono ?_); rintro e w9 ⟨rfl, hb⟩; have HS8 := Aside0.mk (HS8.out.below hb); have W10 := Aside0.mk (below_step W10.out hb); clear hb) | (go_at_call 13; (refine (stack_Stack_Cost.sk g B2 _ _ _ HS8.out).mono ?_); rintro e w11 ⟨rfl, rfl⟩) | (go_at_call 12; (refine (stack_Stack_Len.sk g B2 _ _ _ HS8.out).mono ?_); rintro e w11 ⟨rfl, rfl⟩))
          go_ret
          exact ⟨rfl, W10.out⟩
      · have hc2 : B2 = B ∧ co2 = co := by
          rcases hcase with h | h
          · exact ⟨by rw [hB2, h.2], by rw [hco2, h.2]⟩
          · exact absurd (by rw [her, h.2.2.2]) h0
        have hm2 : m2 = m := by
          rw [hc2.1, h6] at h7
          exact (Option.some.inj h7).symm
        have hX3 : X2 = X := by rw [hX2, hX, hc2.1, hm2]
        have e1 : (er == 0) = false := beq_eq_false_iff_ne.2 h0
        have e2 : (er != 0) = true := bne_iff_ne.2 h0
        have q1 : (co == co) = true := by simp
        have q2 : (X == X) = true := by simp
        have q3 : (m == m) = true := by simp
        rw [hm2] at HX2 H7
        rw [hX3] at HX2
        rw [hc2.2] at HCo2
        clear hb h1 h3 h4 h5 h6 h7 h8 h9 h10 h11 hB hfit hci hcost hco hcase her hB2 hco2 hX hX2 hlen2 hM1 hM2 h0 hc2 hM hm2 hX3 H9
        go_enter Try.func5, Try.ntmps5
        go_wp2_with (first | ((with_reducible refine gate_dst (N := 5) rfl ?_); refine box_event ?hg (N := 5) ?hd (cs := #[.int .u32 d0, .int .u32 d1, .int .u64 d2, .int .u64 d3, .int .u64 d4, .int .u64 d5, .int .u64 d6, .int .u64 d7, .int .u64 d8]) (t := 27) ?hr ?_; (case hd => rfl); (case hg => rfl); (case hr => first | (go_simp; done) | (go_simp; rfl)); intro gd hg w1 hbox hb; have W1 := Aside0.mk hb; have BD := Aside0.mk hbox; have GD := Aside0.mk hg; clear hg hbox hb) | (go_at_call 8; (refine (fairleadlaw15_awake.sk k _ HA.out).mono ?_); rintro e w2 ⟨rfl, hb⟩; have W2 := Aside0.mk (below_step W1.out hb); have BD2 := Aside0.mk (blk_below BD.out hb); clear hb) | (go_at_call 9; (refine (fairleadlaw15_few.calls k _ _ L true _ (Kd.C_below HR.out W2.out) HC.out HF.out).mono ?_); rintro e w3 ⟨rfl, hb⟩; have W3 := Aside0.mk (below_step W2.out hb); have BD3 := Aside0.mk (blk_below BD2.out hb); clear hb) | (go_at_call 17; (refine (fairleadlaw15_built.sk k _ _ L ck _ (Kd.C_below HR.out W3.out) HC.out H1.out H3.out hL).mono ?_); intro e w4 h; obtain ⟨g, v4, rfl, hge, hb, hs, hrow⟩ := h; rw [← HB.out] at hs hrow; obtain ⟨A4, c4, rfl, hl4, hC4⟩ := rowIn_reads hrow hb; have HSk := Aside0.mk hs; have HRow := Aside0.mk hrow; have HCl := Aside0.mk hC4; have HLc := Aside0.mk hl4; have W4 := Aside0.mk (below_step W3.out hb); have BD4 := Aside0.mk (blk_below BD3.out hb); have HGe := Aside0.mk (Nat.le_trans W3.out.size hge); have HGD := Aside0.mk (show gd ≠ g from fun e => by have := blk_lt BD3.out; omega); clear hge hb hs hrow hl4 hC4) | ((with_reducible refine gate_dst (N := 35) rfl ?_); refine wpList_load_row rfl 27 (.tmp 5) rfl gd rfl 27 (#[.int .u32 d0, .int .u32 d1, .int .u64 d2, .int .u64 d3, .int .u64 d4, .int .u64 d5, .int .u64 d6, .int .u64 d7, .int .u64 d8]) (0, 0) _ BD4.out hu27_ rfl (by kernel_rfl) ?_) | ((with_reducible refine gate_dst (N := 46) rfl ?_); refine wpList_load_row rfl 27 (.tmp 5) rfl gd rfl 27 (#[.int .u32 d0, .int .u32 d1, .int .u64 d2, .int .u64 d3, .int .u64 d4, .int .u64 d5, .int .u64 d6, .int .u64 d7, .int .u64 d8]) (0, 0) _ BD7.out hu27_ rfl (by kernel_rfl) ?_) | (go_at_call 15; (refine (stack_Stack_Run.calls k g B (costOf B) d0 d1 d2 d3 d4 d5 d6 d7 d8 val m _ _ HSk.out H4'.out H6.out HLen.out).mono ?_); rintro e w6 ⟨he, hb⟩; rw [← HX.out] at he; subst he; have HB6 := Aside0.mk hb; have HSk6 := Aside0.mk (HSk.out.below hb); have BD6 := Aside0.mk (blk_below BD4.out hb); have W6 := Aside0.mk (below_step W4.out hb); clear hb) | (go_at_call 13; (refine (stack_Stack_Cost.sk g B _ _ _ HSk6.out).mono ?_); rintro e w7 ⟨he, rfl⟩; rw [← HCo.out] at he; subst he) | (go_at_call 10; (refine (stack_Stack_Attach.calls k A1 c1 M g B (costOf B) (ck M) p_ _ _ (Kd.C_below HR1.out W6.out) HC1.out HSk6.out HM1.out HM2.out HLen.out (by rw [← HCo.out]; exact k0) (by rw [← HCo.out]; exact k1)).mono ?_); rintro e w7 ⟨he, hbt, hs⟩; rw [← HCo.out] at he hs; rw [← HEr.out] at he; rw [← HB2.out, ← HCo2.out] at hs; subst he; have BD7 := Aside0.mk (hbt.blk BD6.out (fun e => HGD.out e)); have HS7 := Aside0.mk hs; have W7 := Aside0.mk (W6.out.trans (hbt.below (B := w.heap.size) (fun k hk e => by have := HGe.out; omega) W6.out.size)); clear hbt hs HSk6) | (go_at_call 15; (refine (stack_Stack_Run.calls k g B2 co d0 d1 d2 d3 d4 d5 d6 d7 d8 val m _ _ HS7.out H5.out H7.out HLen2.out).mono ?_); rintro e w8 ⟨he, hb⟩; rw [← HX2.out] at he; subst he; have HS8 := Aside0.mk (HS7.out.below hb); have W10 := Aside0.mk (below_step W7.out hb); clear hb) | (go_at_call 13; (refine (stack_Stack_Cost.sk g B2 _ _ _ HS8.out).mono ?_); rintro e w11 ⟨rfl, rfl⟩))
        go_ret
        exact ⟨rfl, W10.out⟩
    · have g1 : decide (5000 < (M.length : Int)) = true := decide_eq_true (by omega)
      have g2 : decide (5000 < M.length) = true := decide_eq_true (by omega)
      clear hb hM
      go_enter Try.func5, Try.ntmps5
      go_wp2_with (first | ((with_reducible refine gate_dst (N := 5) rfl ?_); refine box_event ?hg (N := 5) ?hd (cs := #[.int .u32 d0, .int .u32 d1, .int .u64 d2, .int .u64 d3, .int .u64 d4, .int .u64 d5, .int .u64 d6, .int .u64 d7, .int .u64 d8]) (t := 27) ?hr ?_; (case hd => rfl); (case hg => rfl); (case hr => first | (go_simp; done) | (go_simp; rfl)); intro gd hg w1 hbox hb; have W1 := Aside0.mk hb; have BD := Aside0.mk hbox; have GD := Aside0.mk hg; clear hg hbox hb) | (go_at_call 8; (refine (fairleadlaw15_awake.sk k _ HA.out).mono ?_); rintro e w2 ⟨rfl, hb⟩; have W2 := Aside0.mk (below_step W1.out hb); have BD2 := Aside0.mk (blk_below BD.out hb); clear hb) | (go_at_call 9; (refine (fairleadlaw15_few.calls k _ _ L true _ (Kd.C_below HR.out W2.out) HC.out HF.out).mono ?_); rintro e w3 ⟨rfl, hb⟩; have W3 := Aside0.mk (below_step W2.out hb); have BD3 := Aside0.mk (blk_below BD2.out hb); clear hb))
      go_ret
      exact ⟨rfl, W3.out⟩
/-- What is to be shown of fairleadlaw15_StackMore, without Go and memory. -/
def fairleadlaw15_StackMore.Pure : Prop := ∀ (l0 : List (List S53)) (l1 : List S53) (d0 d1 d2 d3 d4 d5 d6 d7 d8 : Int), (l0.length ≤ 9223372036854775807 ∧ ∀ x ∈ l0, x.length ≤ 9223372036854775807 ∧ ∀ y ∈ x, (0 ≤ y.f0 ∧ y.f0 ≤ 65535) ∧ (0 ≤ y.f1 ∧ y.f1 ≤ 255) ∧ (0 ≤ y.f2 ∧ y.f2 ≤ 255) ∧ (0 ≤ y.f3 ∧ y.f3 ≤ 4294967295)) → (l1.length ≤ 9223372036854775807 ∧ ∀ x ∈ l1, (0 ≤ x.f0 ∧ x.f0 ≤ 65535) ∧ (0 ≤ x.f1 ∧ x.f1 ≤ 255) ∧ (0 ≤ x.f2 ∧ x.f2 ≤ 255) ∧ (0 ≤ x.f3 ∧ x.f3 ≤ 4294967295)) → ((0 ≤ d0 ∧ d0 ≤ 4294967295) ∧ (0 ≤ d1 ∧ d1 ≤ 4294967295) ∧ (0 ≤ d2 ∧ d2 ≤ 18446744073709551615) ∧ ((0 ≤ d3 ∧ d3 ≤ 18446744073709551615) ∧ (0 ≤ d4 ∧ d4 ≤ 18446744073709551615) ∧ (0 ≤ d5 ∧ d5 ≤ 18446744073709551615) ∧ (0 ≤ d6 ∧ d6 ≤ 18446744073709551615) ∧ (0 ≤ d7 ∧ d7 ≤ 18446744073709551615) ∧ (0 ≤ d8 ∧ d8 ≤ 18446744073709551615))) → ∃ k, fairleadlaw15_StackMore.P k l0 l1 d0 d1 d2 d3 d4 d5 d6 d7 d8 ∧ true = true
end Go.Proofs.Yteojfjlklikaoaa.M
