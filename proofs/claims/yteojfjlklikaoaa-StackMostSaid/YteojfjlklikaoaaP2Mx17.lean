-- Laid by a program (wip/tools/myprint.py) out of the loaded program's own print: for each Go function a Lean function and the proof of its contract.
import Derived.Test.YteojfjlklikaoaaP2Mx0
import Derived.Test.YteojfjlklikaoaaP2Mx3
import Derived.Test.YteojfjlklikaoaaP2Mx5
import Derived.Test.YteojfjlklikaoaaP2Mx6
import Derived.Test.YteojfjlklikaoaaP2Mx7
import Derived.Test.YteojfjlklikaoaaP2Mx16
namespace Go.Proofs.Yteojfjlklikaoaa.M
open Go.RowKit Go.Proofs.YteojfjlklikaoaaW.PrintWords Go.Proofs.YteojfjlklikaoaaW.PrintLast Go.Proofs.YteojfjlklikaoaaW.PrintMore
attribute [local go_sem] max2_int min2_int max_two min_two max_three min_three max_four min_four   -- for this text's walks alone
set_option linter.unusedVariables false
set_option linter.unusedSimpArgs false
-- HAND rounds=True making=True
/-- Of what is answered: one filter's, the newest of its kind, the least. -/
structure MostOk (B : List (List S53)) (val : List S53 → Int) (kd : Int → Int) (m N : Int) : Prop where
  n0 : 0 ≤ N
  n1 : N < (B.length : Int)
  le : ∀ i, i < B.length → kd m ≤ kd (val (B.getD i []))
  eq : ∀ i : Nat, i < B.length → (i : Int) = N → val (B.getD i []) = m
  ne : ∀ i : Nat, i < B.length → N < (i : Int) → kd (val (B.getD i [])) ≠ kd m
/-- What StackMost asks of the functions below. -/
def fairleadlaw15_StackMost.P (k : Nat) (L : List (List S53)) (d0 d1 d2 d3 d4 d5 d6 d7 d8 : Int) : Prop := fairleadlaw15_awake.P k ∧ ∃ b, fairleadlaw15_few.f k L = some b ∧ (b = true → L.length ≤ 40 ∧ ∃ (ck val : List S53 → Int) (m : Int) (kd ar : Int → Int), (∀ l ∈ L, ∃ p, check_Check.f k l = some (ck l, p)) ∧ (∀ l ∈ L, ck l = 0 → 1 ≤ l.length ∧ l.length ≤ 4096) ∧ (∀ l ∈ BUILT ck L, ∃ n, vm_Run.f k l d0 d1 d2 d3 d4 d5 d6 d7 d8 = some (val l, n, 0)) ∧ act_Most.f k (stVals val (BUILT ck L)) = some m ∧ act_Of.f k m = some (kd m, ar m) ∧ (∀ l ∈ BUILT ck L, act_Of.f k (val l) = some (kd (val l), ar (val l))) ∧ (BUILT ck L = [] → kd m = 8 ∧ ar m = 0) ∧ (BUILT ck L ≠ [] → MostOk (BUILT ck L) val kd m (stFind m (stVals val (BUILT ck L)) (((BUILT ck L).length : Int) - 1))))
set_option maxHeartbeats 8000000 in
set_option maxRecDepth 100000 in
theorem fairleadlaw15_StackMost.calls (k : Nat) (A0 : Option Addr) (c0 : Nat) (L : List (List S53)) (d0 d1 d2 d3 d4 d5 d6 d7 d8 : Int) (r : Bool) (w : World) (hr : Kd.C (Kd.slice 53 k53) w A0 L.length L) (hc : L.length ≤ c0) (h : fairleadlaw15_StackMost.P k L d0 d1 d2 d3 d4 d5 d6 d7 d8 ∧ r = true) :
    Calls Try.prog 4 #[.slice A0 L.length c0, .agg #[.int .u32 d0, .int .u32 d1, .int .u64 d2, .int .u64 d3, .int .u64 d4, .int .u64 d5, .int .u64 d6, .int .u64 d7, .int .u64 d8]] w fun e w' => e = .returned (.bool r) ∧ Below w.heap.size w w' := by
  obtain ⟨⟨ha, b, hf, hb⟩, rfl⟩ := h
  have HR := Aside0.mk hr
  have HC := Aside0.mk hc
  have HA := Aside0.mk ha
  have HF := Aside0.mk hf
  have hu27_ := Try.underlying27
  have hu46_ := Try.underlying46
  have hfd46 := fun (cs_ : Array Value) (j_ : Nat) (w_ : World) => Mine.run_field (P := Try.prog) Try.underlying46 cs_ j_ w_
  clear hr hc ha hf
  cases b with
  | false =>
    clear hb
    go_enter Try.func4, Try.ntmps4
    go_wp2_with (first | ((with_reducible refine gate_dst (N := 3) rfl ?_); refine box_event ?hg (N := 3) ?hd (cs := #[.int .u32 d0, .int .u32 d1, .int .u64 d2, .int .u64 d3, .int .u64 d4, .int .u64 d5, .int .u64 d6, .int .u64 d7, .int .u64 d8]) (t := 27) ?hr ?_; (case hd => rfl); (case hg => rfl); (case hr => first | (go_simp; done) | (go_simp; rfl)); intro gd hg w1 hbox hb; have W1 := Aside0.mk hb; have BD := Aside0.mk hbox; have GD := Aside0.mk hg; clear hg hbox hb) | (go_at_call 8; (refine (fairleadlaw15_awake.sk k _ HA.out).mono ?_); rintro e w2 ⟨rfl, hb⟩; have W2 := Aside0.mk (below_step W1.out hb); have BD2 := Aside0.mk (blk_below BD.out hb); clear hb) | (go_at_call 9; (refine (fairleadlaw15_few.calls k _ _ L false _ (Kd.C_below HR.out W2.out) HC.out HF.out).mono ?_); rintro e w3 ⟨rfl, hb⟩; have W3 := Aside0.mk (below_step W2.out hb); have BD3 := Aside0.mk (blk_below BD2.out hb); clear hb))
    go_ret
    exact ⟨rfl, W3.out⟩
  | true =>
    obtain ⟨hL, ck, val, m, kd, ar, h1, h3, h4, h6, h7, h8, h9, h10⟩ := hb rfl
    obtain ⟨B, hB⟩ : ∃ B, B = BUILT ck L := ⟨_, rfl⟩
    have hfit := fit_built ck L L (fun l hl => hl)
    rw [← hB] at h4 h6 h8 h9 h10 hfit
    obtain ⟨X, hX⟩ : ∃ X, X = stFind m (stVals val B) ((B.length : Int) - 1) := ⟨_, rfl⟩
    rw [← hX] at h10
    have HX := Aside0.mk hX
    have HB := Aside0.mk hB
    have H1 := Aside0.mk h1
    have H3 := Aside0.mk h3
    have H4 := Aside0.mk h4
    have H4' := Aside0.mk (fun l hl => (h4 l hl).elim fun n hn => (⟨n, 0, hn⟩ : ∃ n e, vm_Run.f k l d0 d1 d2 d3 d4 d5 d6 d7 d8 = some (val l, n, e)))
    have H6 := Aside0.mk h6
    have H8 := Aside0.mk h8
    have HLen := Aside0.mk hfit.len
    by_cases hB0 : B = []
    · obtain ⟨e1, e2⟩ := h9 hB0
      rw [e1, e2] at h7
      have H7 := Aside0.mk h7
      have b0 : ((B.length : Int) == 0) = true := by rw [hB0]; rfl
      have hXe : X = -1 := by rw [hX, hB0]; rfl
      subst hXe
      have qe : ∀ w : World, (binOp .eql 46 (.agg #[.int .i64 8, .int .i64 0]) (.agg #[.int .i64 8, .int .i64 0])).run Try.prog w = .ok (.bool true) w := fun _ => by kernel_rfl
      clear hb h1 h3 h4 h6 h7 h8 h9 h10 hB hfit hX e1 e2 hB0
      go_enter Try.func4, Try.ntmps4
      go_wp2_with (first | ((with_reducible refine gate_dst (N := 3) rfl ?_); refine box_event ?hg (N := 3) ?hd (cs := #[.int .u32 d0, .int .u32 d1, .int .u64 d2, .int .u64 d3, .int .u64 d4, .int .u64 d5, .int .u64 d6, .int .u64 d7, .int .u64 d8]) (t := 27) ?hr ?_; (case hd => rfl); (case hg => rfl); (case hr => first | (go_simp; done) | (go_simp; rfl)); intro gd hg w1 hbox hb; have W1 := Aside0.mk hb; have BD := Aside0.mk hbox; have GD := Aside0.mk hg; clear hg hbox hb) | (go_at_call 8; (refine (fairleadlaw15_awake.sk k _ HA.out).mono ?_); rintro e w2 ⟨rfl, hb⟩; have W2 := Aside0.mk (below_step W1.out hb); have BD2 := Aside0.mk (blk_below BD.out hb); clear hb) | (go_at_call 9; (refine (fairleadlaw15_few.calls k _ _ L true _ (Kd.C_below HR.out W2.out) HC.out HF.out).mono ?_); rintro e w3 ⟨rfl, hb⟩; have W3 := Aside0.mk (below_step W2.out hb); have BD3 := Aside0.mk (blk_below BD2.out hb); clear hb) | (go_at_call 17; (refine (fairleadlaw15_built.sk k _ _ L ck _ (Kd.C_below HR.out W3.out) HC.out H1.out H3.out hL).mono ?_); intro e w4 h; obtain ⟨g, v4, rfl, hge, hb, hs, hrow⟩ := h; rw [← HB.out] at hs hrow; obtain ⟨A4, c4, rfl, hl4, hC4⟩ := rowIn_reads hrow hb; have HSk := Aside0.mk hs; have HRow := Aside0.mk hrow; have HCl := Aside0.mk hC4; have HLc := Aside0.mk hl4; have W4 := Aside0.mk (below_step W3.out hb); have BD4 := Aside0.mk (blk_below BD3.out hb); have HGe := Aside0.mk (Nat.le_trans W3.out.size hge); have HGD := Aside0.mk (show gd ≠ g from fun e => by have := blk_lt BD3.out; omega); clear hge hb hs hrow hl4 hC4) | ((with_reducible refine gate_dst (N := 28) rfl ?_); refine wpList_load_row rfl 27 (.tmp 3) rfl gd rfl 27 (#[.int .u32 d0, .int .u32 d1, .int .u64 d2, .int .u64 d3, .int .u64 d4, .int .u64 d5, .int .u64 d6, .int .u64 d7, .int .u64 d8]) (0, 0) _ BD4.out hu27_ rfl (by kernel_rfl) ?_) | (go_at_call 15; (refine (stack_Stack_Run.calls k g B (costOf B) d0 d1 d2 d3 d4 d5 d6 d7 d8 val m _ _ HSk.out H4'.out H6.out HLen.out).mono ?_); rintro e w6 ⟨he, hb⟩; rw [← HX.out] at he; subst he; have HB6 := Aside0.mk hb; have HSk6 := Aside0.mk (HSk.out.below hb); have BD6 := Aside0.mk (blk_below BD4.out hb); have W6 := Aside0.mk (below_step W4.out hb); clear hb) | (go_at_call 18; (refine (act_Of.calls k m 8 0 _ H7.out).mono ?_); rintro e w7 ⟨rfl, hb⟩; have W7 := Aside0.mk (below_step W6.out hb); clear hb))
      go_ret
      exact ⟨rfl, W7.out⟩
    · have HO := Aside0.mk (h10 hB0)
      have H7 := Aside0.mk h7
      have b0 : ((B.length : Int) == 0) = false := beq_eq_false_iff_ne.2 (by have := List.length_pos_iff.2 hB0; omega)
      have b1 : decide (X < 0) = false := decide_eq_false (by have := (h10 hB0).n0; omega)
      have b2 : decide ((B.length : Int) ≤ X) = false := decide_eq_false (by have := (h10 hB0).n1; omega)
      have b3 : ((B.length : Int) != (B.length : Int)) = false := by simp
      clear hb h1 h3 h4 h6 h7 h8 h9 h10 hB hfit hX hB0
      go_enter Try.func4, Try.ntmps4
      go_wp2_with (first | ((with_reducible refine gate_dst (N := 3) rfl ?_); refine box_event ?hg (N := 3) ?hd (cs := #[.int .u32 d0, .int .u32 d1, .int .u64 d2, .int .u64 d3, .int .u64 d4, .int .u64 d5, .int .u64 d6, .int .u64 d7, .int .u64 d8]) (t := 27) ?hr ?_; (case hd => rfl); (case hg => rfl); (case hr => first | (go_simp; done) | (go_simp; rfl)); intro gd hg w1 hbox hb; have W1 := Aside0.mk hb; have BD := Aside0.mk hbox; have GD := Aside0.mk hg; clear hg hbox hb) | (go_at_call 8; (refine (fairleadlaw15_awake.sk k _ HA.out).mono ?_); rintro e w2 ⟨rfl, hb⟩; have W2 := Aside0.mk (below_step W1.out hb); have BD2 := Aside0.mk (blk_below BD.out hb); clear hb) | (go_at_call 9; (refine (fairleadlaw15_few.calls k _ _ L true _ (Kd.C_below HR.out W2.out) HC.out HF.out).mono ?_); rintro e w3 ⟨rfl, hb⟩; have W3 := Aside0.mk (below_step W2.out hb); have BD3 := Aside0.mk (blk_below BD2.out hb); clear hb) | (go_at_call 17; (refine (fairleadlaw15_built.sk k _ _ L ck _ (Kd.C_below HR.out W3.out) HC.out H1.out H3.out hL).mono ?_); intro e w4 h; obtain ⟨g, v4, rfl, hge, hb, hs, hrow⟩ := h; rw [← HB.out] at hs hrow; obtain ⟨A4, c4, rfl, hl4, hC4⟩ := rowIn_reads hrow hb; have HSk := Aside0.mk hs; have HRow := Aside0.mk hrow; have HCl := Aside0.mk hC4; have HLc := Aside0.mk hl4; have W4 := Aside0.mk (below_step W3.out hb); have BD4 := Aside0.mk (blk_below BD3.out hb); have HGe := Aside0.mk (Nat.le_trans W3.out.size hge); have HGD := Aside0.mk (show gd ≠ g from fun e => by have := blk_lt BD3.out; omega); clear hge hb hs hrow hl4 hC4) | ((with_reducible refine gate_dst (N := 28) rfl ?_); refine wpList_load_row rfl 27 (.tmp 3) rfl gd rfl 27 (#[.int .u32 d0, .int .u32 d1, .int .u64 d2, .int .u64 d3, .int .u64 d4, .int .u64 d5, .int .u64 d6, .int .u64 d7, .int .u64 d8]) (0, 0) _ BD4.out hu27_ rfl (by kernel_rfl) ?_) | (go_at_call 15; (refine (stack_Stack_Run.calls k g B (costOf B) d0 d1 d2 d3 d4 d5 d6 d7 d8 val m _ _ HSk.out H4'.out H6.out HLen.out).mono ?_); rintro e w6 ⟨he, hb⟩; rw [← HX.out] at he; subst he; have HB6 := Aside0.mk hb; have HSk6 := Aside0.mk (HSk.out.below hb); have BD6 := Aside0.mk (blk_below BD4.out hb); have W6 := Aside0.mk (below_step W4.out hb); clear hb) | (go_at_call 12; (refine (stack_Stack_Len.sk g B _ _ _ HSk6.out).mono ?_); rintro e w7 ⟨rfl, rfl⟩))
      have HCl6 := Aside0.mk (Kd.C_below HCl.out HB6.out)
      obtain ⟨km, hkm⟩ : ∃ km, km = kd m := ⟨_, rfl⟩
      obtain ⟨am, ham⟩ : ∃ am, am = ar m := ⟨_, rfl⟩
      have H7' := Aside0.mk H7.out
      rw [← hkm, ← ham] at H7'
      have HKm := Aside0.mk hkm
      clear H7 hkm ham
      go_loopg [11] (B.length + 1) (fun kq v11 w' => ∃ (i : Int) (j : Nat), v11 = .int .i64 i ∧ Aside0 (i = (j : Int)) ∧ Aside0 (j ≤ B.length) ∧ Aside0 (B.length - j < kq) ∧ Aside0 (Below w6.heap.size w6 w'))
      case atStart => exact ⟨0, 0, rfl, ⟨rfl⟩, ⟨Nat.zero_le _⟩, ⟨by omega⟩, ⟨Below.refl _ _⟩⟩
      case round =>
        obtain ⟨i, j, rfl, hi, hj, hk2, hB⟩ := hrel
        obtain ⟨k2, rfl⟩ : ∃ k2, gk = k2 + 1 := ⟨gk - 1, by have := hk2.out; omega⟩
        by_cases hlt : i < (B.length : Int)
        · have c1 : decide (i < (B.length : Int)) = true := decide_eq_true hlt
          have p1 : 0 ≤ i := by have := hi.out; omega
          have hi32 : i ≤ 31 := by have := HLen.out; omega
          obtain ⟨ad, A', c', eA, zi0, hlc, hCr⟩ := Mine.C_row (Kd.C_below HCl6.out hB.out) i p1 hlt
          cases eA
          have hjl : j < B.length := by have := hi.out; omega
          obtain ⟨li, hli⟩ : ∃ li, li = B.getD i.toNat [] := ⟨_, rfl⟩
          rw [← hli] at zi0 hlc hCr
          have zi : wr.drew.cell? (ad.add i.toNat) = some (.slice A' li.length c') := zi0
          have hli2 : B.getD j [] = li := by rw [hli, show i.toNat = j by have := hi.out; omega]
          have hmem : li ∈ B := by rw [hli, List.getD_eq_getElem?_getD, List.getElem?_eq_getElem (by omega)]; exact List.getElem_mem _
          obtain ⟨n_, hval⟩ := H4.out li hmem
          have hof := H8.out li hmem
          have hle := HO.out.le j hjl
          have heq := HO.out.eq j hjl
          have hne := HO.out.ne j hjl
          rw [hli2] at hle heq hne
          rw [← HKm.out] at hle hne
          obtain ⟨vi, hvi⟩ : ∃ vi, vi = val li := ⟨_, rfl⟩
          rw [← hvi] at hval hof hle heq hne
          obtain ⟨kv, hkv⟩ : ∃ kv, kv = kd vi := ⟨_, rfl⟩
          obtain ⟨av, hav⟩ : ∃ av, av = ar vi := ⟨_, rfl⟩
          rw [← hkv, ← hav] at hof
          rw [← hkv] at hle hne
          have HOf := Aside0.mk hof
          have HVl := Aside0.mk hval
          have HLi := Aside0.mk hlc
          have HCi := Aside0.mk (Kd.C_drew hCr)
          have HGd := Aside0.mk (show wr.drew.heap[gd]? = some (.cells #[.int .u32 d0, .int .u32 d1, .int .u64 d2, .int .u64 d3, .int .u64 d4, .int .u64 d5, .int .u64 d6, .int .u64 d7, .int .u64 d8] 27 (0, 0)) from (blk_below (w1 := wr) BD6.out hB.out : wr.heap[gd]? = _))
          have HBl := Aside0.mk (below_drew hB.out)
          have hc3 : (i < X ∧ (i == X) = false ∧ decide (X < i) = false) ∨ (i = X ∧ vi = m) ∨ ((i == X) = false ∧ decide (X < i) = true ∧ (kv == km) = false) := by
            have hij := hi.out
            rcases Int.lt_trichotomy i X with h | h | h
            · exact .inl ⟨h, beq_eq_false_iff_ne.2 (by omega), decide_eq_false (by omega)⟩
            · exact .inr (.inl ⟨h, heq (by omega)⟩)
            · exact .inr (.inr ⟨beq_eq_false_iff_ne.2 (by omega), decide_eq_true h, beq_eq_false_iff_ne.2 (hne (by omega))⟩)
          have c2 : decide (kv < km) = false := decide_eq_false (by omega)
          have HC3 := Aside0.mk hc3
          clear zi0 hlc hCr hli hli2 hmem hval hof hle heq hne hvi hkv hav hc3
          go_wp2
          refine start_ (n := 13) (S := fun w' => w'.cell? (ad.add i.toNat) = some (.slice A' li.length c') ∧ w'.heap[gd]? = some (.cells #[.int .u32 d0, .int .u32 d1, .int .u64 d2, .int .u64 d3, .int .u64 d4, .int .u64 d5, .int .u64 d6, .int .u64 d7, .int .u64 d8] 27 (0, 0))) (ds := []) #[false, false, false, false, false, false, false, false, false, false, false, false, false] (by kernel_rfl) rfl rfl ⟨zi, HGd.out⟩ (fun hHeld => ?_)
          refine Mine.pS 0 (some 68) ?_; refine Mine.pS 1 (some 69) ?_; refine Mine.pS 2 (some 70) ?_; refine Mine.tS 3 (some 71) hHeld ?_
          refine take_ (i := 4) (N := some 72) (v := ?_) (a' := ?_) #[true, true, true, true, true, false, false, false, false, false, false, false, false] rfl rfl (by kernel_rfl) (fun _ _ _ h => h) (Or.inl ⟨by rfl, ?_⟩) hHeld ?_ ?_
          rotate_left
          · rintro w' ⟨s0, s1⟩
            refine Eq.trans (Mine.op_load_row 27 (.tmp 3) (by rfl) gd (by rfl) 27 #[.int .u32 d0, .int .u32 d1, .int .u64 d2, .int .u64 d3, .int .u64 d4, .int .u64 d5, .int .u64 d6, .int .u64 d7, .int .u64 d8] (0, 0) _ s1 hu27_ rfl (by kernel_rfl)) ?_
            with_reducible rfl
          rotate_left
          · simp only [Act.put, List.setIfInBounds_toArray, List.set_cons_zero, List.set_cons_succ, i64_w, i32_w]
            rfl
          refine one_ (i := 5) (N := some 73) #[true, true, true, true, true, true, false, false, false, false, false, false, false] rfl rfl (by kernel_rfl) (by decide) (fun K hK => ?_)
          refine goes_ Try.func19 (by kernel_rfl) rfl #[.slice A' li.length c', .agg #[.int .u32 d0, .int .u32 d1, .int .u64 d2, .int .u64 d3, .int .u64 d4, .int .u64 d5, .int .u64 d6, .int .u64 d7, .int .u64 d8]] (by rfl) rfl rfl (by simp only [List.map_toArray, List.map_cons, List.map_nil]; rfl) ?_
          with_reducible refine (vm_Run.calls k A' c' li d0 d1 d2 d3 d4 d5 d6 d7 d8 _ n_ 0 wr.drew HCi.out HLi.out HVl.out).mono ?_
          rintro e w8 ⟨rfl, hb8⟩
          refine ⟨_, rfl, ?_⟩
          have HB8 := Aside0.mk (below_step HBl.out hb8)
          have yi := pw_cell_below hb8 zi
          have HG8 := Aside0.mk (blk_below (w := wr.drew) HGd.out hb8)
          clear hb8
          refine hK.out _ _ ⟨yi, HG8.out⟩ (fun hHeld => ?_)
          clear hK K
          refine norm_ (a' := ?_) ?_ ?_
          rotate_left
          · show Act.put _ (some 73) _ = _
            simp only [Act.put, List.setIfInBounds_toArray, List.set_cons_zero, List.set_cons_succ, i64_w, i32_w]
            rfl
          refine Mine.pS 6 (some 67) ?_; refine Mine.pS 7 (some 74) ?_; refine Mine.pS 8 (some 75) ?_; refine Mine.pS 9 (some 76) ?_; refine Mine.pS 10 (some 12) ?_; refine Mine.pS 11 (some 13) ?_; refine Mine.pS 12 (some 14) ?_
          refine done_ (by kernel_rfl) ?_
          rcases HC3.out with ⟨_, c3, c4⟩ | ⟨c3, c4⟩ | ⟨c3, c4, c5⟩
          · clear HC3
            go_wp2_with (first | (go_at_call 18; (with_reducible refine (act_Of.calls k vi kv av _ HOf.out).mono ?_); rintro e wx ⟨rfl, hb⟩; have HB8 := Aside0.mk (below_step HB8.out hb); clear hb) | (go_at_call 18; (with_reducible refine (act_Of.calls k m km am _ H7'.out).mono ?_); rintro e wx ⟨rfl, hb⟩; have HB8 := Aside0.mk (below_step HB8.out hb); clear hb))
            go_roundg k2
            case measure => have := hk2.out; omega
            case rel => exact ⟨i + 1, j + 1, by first | rfl | (rw [show wrap64 (i + 1) = i + 1 by (unfold wrap64; omega)]), ⟨by have := hi.out; omega⟩, ⟨hjl⟩, ⟨by have := hk2.out; omega⟩, HB8⟩
          · have e1 : (i == X) = true := beq_iff_eq.2 c3
            have e2 : (vi != m) = false := bne_eq_false_iff_eq.2 c4
            have e3 : decide (X < i) = false := decide_eq_false (by omega)
            clear HC3 c3 c4
            go_wp2_with (first | (go_at_call 18; (with_reducible refine (act_Of.calls k vi kv av _ HOf.out).mono ?_); rintro e wx ⟨rfl, hb⟩; have HB8 := Aside0.mk (below_step HB8.out hb); clear hb) | (go_at_call 18; (with_reducible refine (act_Of.calls k m km am _ H7'.out).mono ?_); rintro e wx ⟨rfl, hb⟩; have HB8 := Aside0.mk (below_step HB8.out hb); clear hb))
            go_roundg k2
            case measure => have := hk2.out; omega
            case rel => exact ⟨i + 1, j + 1, by first | rfl | (rw [show wrap64 (i + 1) = i + 1 by (unfold wrap64; omega)]), ⟨by have := hi.out; omega⟩, ⟨hjl⟩, ⟨by have := hk2.out; omega⟩, HB8⟩
          · clear HC3
            go_wp2_with (first | (go_at_call 18; (with_reducible refine (act_Of.calls k vi kv av _ HOf.out).mono ?_); rintro e wx ⟨rfl, hb⟩; have HB8 := Aside0.mk (below_step HB8.out hb); clear hb) | (go_at_call 18; (with_reducible refine (act_Of.calls k m km am _ H7'.out).mono ?_); rintro e wx ⟨rfl, hb⟩; have HB8 := Aside0.mk (below_step HB8.out hb); clear hb))
            go_roundg k2
            case measure => have := hk2.out; omega
            case rel => exact ⟨i + 1, j + 1, by first | rfl | (rw [show wrap64 (i + 1) = i + 1 by (unfold wrap64; omega)]), ⟨by have := hi.out; omega⟩, ⟨hjl⟩, ⟨by have := hk2.out; omega⟩, HB8⟩
        · have c1 : decide (i < (B.length : Int)) = false := decide_eq_false hlt
          go_wp2
          go_ret
          exact ⟨rfl, below_step W6.out hB.out⟩
/-- What is to be shown of fairleadlaw15_StackMost, without Go and memory. -/
def fairleadlaw15_StackMost.Pure : Prop := ∀ (l0 : List (List S53)) (d0 d1 d2 d3 d4 d5 d6 d7 d8 : Int), (l0.length ≤ 9223372036854775807 ∧ ∀ x ∈ l0, x.length ≤ 9223372036854775807 ∧ ∀ y ∈ x, (0 ≤ y.f0 ∧ y.f0 ≤ 65535) ∧ (0 ≤ y.f1 ∧ y.f1 ≤ 255) ∧ (0 ≤ y.f2 ∧ y.f2 ≤ 255) ∧ (0 ≤ y.f3 ∧ y.f3 ≤ 4294967295)) → ((0 ≤ d0 ∧ d0 ≤ 4294967295) ∧ (0 ≤ d1 ∧ d1 ≤ 4294967295) ∧ (0 ≤ d2 ∧ d2 ≤ 18446744073709551615) ∧ ((0 ≤ d3 ∧ d3 ≤ 18446744073709551615) ∧ (0 ≤ d4 ∧ d4 ≤ 18446744073709551615) ∧ (0 ≤ d5 ∧ d5 ≤ 18446744073709551615) ∧ (0 ≤ d6 ∧ d6 ≤ 18446744073709551615) ∧ (0 ≤ d7 ∧ d7 ≤ 18446744073709551615) ∧ (0 ≤ d8 ∧ d8 ≤ 18446744073709551615))) → ∃ k, fairleadlaw15_StackMost.P k l0 d0 d1 d2 d3 d4 d5 d6 d7 d8 ∧ true = true
end Go.Proofs.Yteojfjlklikaoaa.M
