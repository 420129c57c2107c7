-- Laid by a program (wip/tools/myprint.py) out of the loaded program's own print: for each Go function a Lean function and the proof of its contract.
import Derived.Test.YteojfjlklikaoaaP5Mx0
import Derived.Test.YteojfjlklikaoaaP5Mx3
import Derived.Test.YteojfjlklikaoaaP5Mx5
import Derived.Test.YteojfjlklikaoaaP5Mx6
import Derived.Test.YteojfjlklikaoaaP5Mx7
import Derived.Test.YteojfjlklikaoaaP5Mx9
import Derived.Test.YteojfjlklikaoaaP5Mx13
import Derived.Test.YteojfjlklikaoaaP5Mx14
import Derived.Test.YteojfjlklikaoaaP5Mx16
namespace Go.Proofs.Yteojfjlklikaoaa.M
open Go.RowKit Go.Proofs.YteojfjlklikaoaaW.PrintWords Go.Proofs.YteojfjlklikaoaaW.PrintLast Go.Proofs.YteojfjlklikaoaaW.PrintMore
attribute [local go_sem] max2_int min2_int max_two min_two max_three min_three max_four min_four   -- for this text's walks alone
set_option linter.unusedVariables false
set_option linter.unusedSimpArgs false
-- HAND rounds=True making=True
/-- What StackPlays asks of the functions below. -/
def fairleadlaw15_StackPlays.P (k : Nat) (L : List (List S53)) (d0 d1 d2 d3 d4 d5 d6 d7 d8 : Int) : Prop := fairleadlaw15_awake.P k ∧ ∃ b, fairleadlaw15_few.f k L = some b ∧ (b = true → L.length ≤ 40 ∧ ∃ (ck val : List S53 → Int) (m : Int), (∀ l ∈ L, ∃ p, check_Check.f k l = some (ck l, p)) ∧ (∀ l ∈ L, ∃ p, fairleadref05_Check.f k l = some (ck l, p)) ∧ (∀ l ∈ L, ck l = 0 → 1 ≤ l.length ∧ l.length ≤ 4096) ∧ (∀ l ∈ BUILT ck L, ∃ n e, vm_Run.f k l d0 d1 d2 d3 d4 d5 d6 d7 d8 = some (val l, n, e)) ∧ (∀ l ∈ BUILT ck L, ∃ n e, fairleadref06_Run.f k l d0 d1 d2 d3 d4 d5 d6 d7 d8 = some (val l, n, e)) ∧ act_Most.f k (stVals val (BUILT ck L)) = some m ∧ fairleadref07_Most.f k (stVals val (BUILT ck L)) = some m)
structure PlayK (w w' : World) (gd gs gr : Nat) (D : Array Value) (B : List (List S53)) : Prop where
  below : Below w.heap.size w w'
  bd : w'.heap[gd]? = some (.cells D 27 (0, 0))
  ge : w.heap.size ≤ gs ∧ w.heap.size ≤ gr ∧ gs ≠ gr ∧ gd ≠ gs ∧ gd ≠ gr
  st : ∃ oks okr : Nat → Prop, (∀ k, k < w'.heap.size → oks k → okr k → False) ∧ (∀ k, oks k → w.heap.size ≤ k ∧ k ≠ gd ∧ k ≠ gr) ∧ (∀ k, okr k → w.heap.size ≤ k ∧ k ≠ gd ∧ k ≠ gs) ∧ SkS oks w' gs B (costOf B) ∧ RkS okr w' gr B
set_option maxHeartbeats 8000000 in
set_option maxRecDepth 100000 in
theorem fairleadlaw15_StackPlays.calls (k : Nat) (A0 : Option Addr) (c0 : Nat) (L : List (List S53)) (d0 d1 d2 d3 d4 d5 d6 d7 d8 : Int) (r : Bool) (w : World) (hr : Kd.C (Kd.slice 53 k53) w A0 L.length L) (hc : L.length ≤ c0) (h : fairleadlaw15_StackPlays.P k L d0 d1 d2 d3 d4 d5 d6 d7 d8 ∧ r = true) :
    Calls Try.prog 3 #[.slice A0 L.length c0, .agg #[.int .u32 d0, .int .u32 d1, .int .u64 d2, .int .u64 d3, .int .u64 d4, .int .u64 d5, .int .u64 d6, .int .u64 d7, .int .u64 d8]] w fun e w' => e = .returned (.bool r) ∧ Below w.heap.size w w' := by
  obtain ⟨⟨ha, b, hf, hb⟩, rfl⟩ := h
  have HR := Aside0.mk hr
  have HC := Aside0.mk hc
  have HA := Aside0.mk ha
  have HF := Aside0.mk hf
  have hu27_ := Try.underlying27
  clear hr hc ha hf
  cases b with
  | false =>
    clear hb
    go_enter Try.func3, Try.ntmps3
    go_wp2_with (first | ((with_reducible refine gate_dst (N := 3) rfl ?_); refine box_event ?hg (N := 3) ?hd (cs := #[.int .u32 d0, .int .u32 d1, .int .u64 d2, .int .u64 d3, .int .u64 d4, .int .u64 d5, .int .u64 d6, .int .u64 d7, .int .u64 d8]) (t := 27) ?hr ?_; (case hd => rfl); (case hg => rfl); (case hr => first | (go_simp; done) | (go_simp; rfl)); intro gd hg w1 hbox hb; have W1 := Aside0.mk hb; clear hg hbox hb) | (go_at_call 8; (refine (fairleadlaw15_awake.sk k _ HA.out).mono ?_); rintro e w2 ⟨rfl, hb⟩; have W2 := Aside0.mk (below_step W1.out hb); clear hb) | (go_at_call 9; (refine (fairleadlaw15_few.calls k _ _ L false _ (Kd.C_below HR.out W2.out) HC.out HF.out).mono ?_); rintro e w3 ⟨rfl, hb⟩; have W3 := Aside0.mk (below_step W2.out hb); clear hb))
    go_ret
    exact ⟨rfl, W3.out⟩
  | true =>
    obtain ⟨hL, ck, val, m, h1, h2, h3, h4, h5, h6, h7⟩ := hb rfl
    have H1 := Aside0.mk h1
    have H2 := Aside0.mk h2
    have H3 := Aside0.mk h3
    have H4 := Aside0.mk h4
    have H5 := Aside0.mk h5
    have H6 := Aside0.mk h6
    have H7 := Aside0.mk h7
    clear hb h1 h2 h3 h4 h5 h6 h7
    go_enter Try.func3, Try.ntmps3
    go_wp2_with (first | ((with_reducible refine gate_dst (N := 3) rfl ?_); refine box_event ?hg (N := 3) ?hd (cs := #[.int .u32 d0, .int .u32 d1, .int .u64 d2, .int .u64 d3, .int .u64 d4, .int .u64 d5, .int .u64 d6, .int .u64 d7, .int .u64 d8]) (t := 27) ?hr ?_; (case hd => rfl); (case hg => rfl); (case hr => first | (go_simp; done) | (go_simp; rfl)); intro gd hg w1 hbox hb; have W1 := Aside0.mk hb; have BD := Aside0.mk hbox; have GD := Aside0.mk hg; clear hg hbox hb) | (go_at_call 8; (refine (fairleadlaw15_awake.sk k _ HA.out).mono ?_); rintro e w2 ⟨rfl, hb⟩; have W2 := Aside0.mk (below_step W1.out hb); have BD2 := Aside0.mk (blk_below BD.out hb); clear hb) | (go_at_call 9; (refine (fairleadlaw15_few.calls k _ _ L true _ (Kd.C_below HR.out W2.out) HC.out HF.out).mono ?_); rintro e w3 ⟨rfl, hb⟩; have W3 := Aside0.mk (below_step W2.out hb); have BD3 := Aside0.mk (blk_below BD2.out hb); clear hb) | ((with_reducible refine gate_dst (N := 21) rfl ?_); refine box_event ?hg (N := 21) ?hd (cs := #[.slice none 0 0, .int .i64 0]) (t := 32) ?hr ?_; (case hd => rfl); (case hg => rfl); (case hr => first | (go_simp; done) | (go_simp; rfl)); intro gs hg w4 hbox hb; have GS := Aside0.mk hg; have BS := Aside0.mk hbox; have W4 := Aside0.mk hb; clear hg hbox hb) | ((with_reducible refine gate_dst (N := 23) rfl ?_); refine box_event ?hg (N := 23) ?hd (cs := #[.slice none 0 0]) (t := 35) ?hr ?_; (case hd => rfl); (case hg => rfl); (case hr => first | (go_simp; done) | (go_simp; rfl)); intro gr hg w5 hbox hb; have GR := Aside0.mk hg; have BR := Aside0.mk hbox; have W5 := Aside0.mk hb; clear hg hbox hb))
    have hP0 : PlayK w w5 gd gs gr #[.int .u32 d0, .int .u32 d1, .int .u64 d2, .int .u64 d3, .int .u64 d4, .int .u64 d5, .int .u64 d6, .int .u64 d7, .int .u64 d8] (BUILT ck (L.take 0)) := by
      have e1 := GD.out
      have e2 := GS.out
      have e3 := GR.out
      have s1 := W1.out.size
      have s3 := W3.out.size
      have s4 := blk_lt BS.out
      have s5 := blk_lt BD3.out
      refine ⟨below_step (below_step W3.out W4.out) W5.out, blk_below (blk_below BD3.out W4.out) W5.out, ⟨by omega, by have := W4.out.size; omega, by omega, by omega, by have := W4.out.size; omega⟩, (fun k => w.heap.size ≤ k ∧ k ≠ gd ∧ k ≠ gr ∧ k ≠ gs), (fun _ => False), (fun _ _ _ h => h), (fun k h => ⟨h.1, h.2.1, h.2.2.1⟩), (fun _ h => h.elim), ⟨⟨_, blk_below BS.out W5.out, Kd.R_nil _ _ _ _ _⟩, fun h => h.2.2.2 rfl⟩, ⟨⟨_, BR.out, Kd.R_nil _ _ _ _ _⟩, fun h => h⟩⟩
    have HP0 := Aside0.mk hP0
    clear hP0 W1 W2 W3 W4 W5 BD BD2 BD3 BS BR GD GS GR HA HF
    go_loopg [9] (L.length + 1) (fun kq v9 w' => ∃ (i : Int) (j : Nat), v9 = .int .i64 i ∧ Aside0 (i = (j : Int)) ∧ Aside0 (j ≤ L.length) ∧ Aside0 (L.length - j < kq) ∧ Aside0 (PlayK w w' gd gs gr #[.int .u32 d0, .int .u32 d1, .int .u64 d2, .int .u64 d3, .int .u64 d4, .int .u64 d5, .int .u64 d6, .int .u64 d7, .int .u64 d8] (BUILT ck (L.take j))))
    case atStart => exact ⟨0, 0, rfl, ⟨rfl⟩, ⟨Nat.zero_le _⟩, ⟨by omega⟩, HP0⟩
    case round =>
      clear HP0
      obtain ⟨i, j, rfl, hi, hj, hk2, hB⟩ := hrel
      obtain ⟨k2, rfl⟩ : ∃ k2, gk = k2 + 1 := ⟨gk - 1, by have := hk2.out; omega⟩
      by_cases hlt : i < (L.length : Int)
      · have b1 : decide (i < (L.length : Int)) = true := decide_eq_true hlt
        have p1 : 0 ≤ i := by have := hi.out; omega
        obtain ⟨ad, A', c', eA, zi0, hlc, hCr⟩ := Mine.C_row HR.out i p1 hlt
        cases eA
        have hjl : j < L.length := by have := hi.out; omega
        obtain ⟨li, hli⟩ : ∃ li, li = L.getD i.toNat [] := ⟨_, rfl⟩
        rw [← hli] at zi0 hlc hCr
        have zi : wr.drew.cell? (ad.add i.toNat) = some (.slice A' li.length c') := pw_cell_below hB.out.below zi0
        have hli2 : L.getD j [] = li := by rw [hli, show i.toNat = j by have := hi.out; omega]
        have hmem : li ∈ L := by rw [hli, List.getD_eq_getElem?_getD, List.getElem?_eq_getElem (by omega)]; exact List.getElem_mem _
        have HTk := Aside0.mk (take_getD L j hjl)
        rw [hli2] at HTk
        have hfit := fit_built ck L (L.take j) (fun l hl => List.mem_of_mem_take hl)
        have hfit2 := fit_built ck L (L.take (j + 1)) (fun l hl => List.mem_of_mem_take hl)
        obtain ⟨BB, hBB⟩ : ∃ BB, BB = BUILT ck (L.take j) := ⟨_, rfl⟩
        obtain ⟨BN, hBN⟩ : ∃ BN, BN = BUILT ck (L.take (j + 1)) := ⟨_, rfl⟩
        have hsn := built_snoc ck (L.take j) li
        rw [← HTk.out, ← hBB, ← hBN] at hsn
        rw [← hBB] at hfit hB
        rw [← hBN] at hfit2
        have hfa := (fit_att hfit li hmem).2
        rw [← hsn] at hfa
        obtain ⟨p_, hp_⟩ := H1.out li hmem
        obtain ⟨p2_, hp2_⟩ := H2.out li hmem
        have hci := costOf_in BB (fun l hl => (H3.out l (hfit.mem l hl).1 (hfit.mem l hl).2).2)
        obtain ⟨er, her⟩ : ∃ er, er = (ATT (ck li) BB (costOf BB) li).1 := ⟨_, rfl⟩
        obtain ⟨oks, okr, hdis, hks, hkr, hSk, hRk⟩ := hB.out.st
        obtain ⟨hg1, hg2, hg3, hg4, hg5⟩ := hB.out.ge
        have hA : ∀ (W : World), Kd.C k53 W A' li.length li → SkS oks W gs BB (costOf BB) → Calls Try.prog 10 #[.pointer (some ⟨gs, 0, none⟩), .slice A' li.length c'] W fun e w' => e = .returned (.int .i64 er) ∧ Mine.But (fun k => k = gs) W w' ∧ SkS (fun k => oks k ∨ W.heap.size ≤ k) w' gs BN (costOf BN) := by
          intro W hC hS
          have h_ := stack_Stack_Attach.calls k A' c' li gs BB (costOf BB) (ck li) p_ oks W hC hlc hS hp_ (fun h => (H3.out li hmem h).2) hfit.len hci.1 hfit.cost
          rw [← her, hfa, ← hsn] at h_
          exact h_
        have hRA : ∀ (W : World) (okr' : Nat → Prop), Kd.C k53 W A' li.length li → RkS okr' W gr BB → Calls Try.prog 11 #[.pointer (some ⟨gr, 0, none⟩), .slice A' li.length c'] W fun e w' => e = .returned (.int .i64 er) ∧ Mine.But (fun k => k = gr ∨ okr' k) W w' ∧ RkS (fun k => okr' k ∨ W.heap.size ≤ k) w' gr BN := by
          intro W okr' hC hS
          have h_ := fairleadref15_Stack_Attach.sk k A' c' li gr BB (ck li) p2_ okr' W hC hlc hS hp2_ (H3.out li hmem) hfit.len (fun l hl => (H3.out l (hfit.mem l hl).1 (hfit.mem l hl).2).2)
          rw [← her, ← hsn] at h_
          exact h_
        have HAt := Aside0.mk hA
        have HRA := Aside0.mk hRA
        have HLen := Aside0.mk (show BN.length ≤ 40 by have := hfit2.len; omega)
        have HMem := Aside0.mk (show ∀ l ∈ BN, l.length ≤ 4096 from fun l hl => (H3.out l (hfit2.mem l hl).1 (hfit2.mem l hl).2).2)
        have HDis := Aside0.mk hdis
        have HKs := Aside0.mk hks
        have HKr := Aside0.mk hkr
        have HSk := Aside0.mk (hSk.below (below_drew (Below.refl wr.heap.size wr)))
        have HRk := Aside0.mk ((hRk.more (ok' := fun k => okr k ∧ k < wr.heap.size) (fun k hk h => ⟨h, hk⟩) (fun h => hRk.og h.1)).below (below_drew (Below.refl wr.heap.size wr)))
        have HBl := Aside0.mk (below_drew hB.out.below)
        have HBd := Aside0.mk hB.out.bd
        have HG := Aside0.mk hB.out.ge
        have HCr := Aside0.mk hCr
        have HBN := Aside0.mk hBN
        have HZ := Aside0.mk (World.block_lt_of_cell? w _ zi0)
        have HZs := Aside0.mk (show (ad.add i.toNat).block ≠ gs from fun e => by have := HZ.out; omega)
        have HZr := Aside0.mk (show ¬ ((ad.add i.toNat).block = gr ∨ (okr (ad.add i.toNat).block ∧ (ad.add i.toNat).block < wr.heap.size)) from fun e => by rcases e with e | e; (have := HZ.out; omega); (have := (hkr _ e.1).1; have := HZ.out; omega))
        have q1 : (er != er) = false := by simp
        have q2 : ((BN.length : Int) != (BN.length : Int)) = false := by simp
        have q3 : (costOf BN != costOf BN) = false := by simp
        clear zi0 hlc hCr hli2 hmem hfit hfit2 hBB hBN hsn hfa hp_ hp2_ hci her hdis hks hkr hSk hRk hg1 hg2 hg3 hg4 hg5 hA hRA hB hli
        go_wp2
        refine start_ (n := 30) (S := fun w' => w'.cell? (ad.add i.toNat) = some (.slice A' li.length c')) (ds := []) #[false, false, false, false, false, false, false, false, false, false, false, false, false, false, false, false, false, false, false, false, false, false, false, false, false, false, false, false, false, false] (by kernel_rfl) rfl rfl (zi) (fun hHeld => ?_)
        refine Mine.pS 0 (some 30) ?_; refine Mine.pS 1 (some 31) ?_; refine Mine.pS 2 (some 32) ?_; refine Mine.pS 3 (some 33) ?_; refine Mine.pS 6 (some 36) ?_; refine Mine.pS 7 (some 37) ?_; refine Mine.pS 8 (some 38) ?_; refine Mine.pS 9 (some 39) ?_; refine Mine.tS 4 (some 34) hHeld ?_; refine Mine.tS 10 (some 40) hHeld ?_
        refine one_ (i := 5) (N := some 35) #[true, true, true, true, true, true, true, true, true, true, true, false, false, false, false, false, false, false, false, false, false, false, false, false, false, false, false, false, false, false] rfl rfl (by kernel_rfl) (by decide) (fun K hK => ?_)
        refine goes_ Try.func10 (by kernel_rfl) rfl #[.pointer (some ⟨gs, 0, none⟩), .slice A' li.length c'] (by rfl) rfl rfl (by simp only [List.map_toArray, List.map_cons, List.map_nil]; rfl) ?_
        with_reducible refine (HAt.out wr.drew (Kd.C_below HCr.out HBl.out) HSk.out).mono ?_
        rintro e w6 ⟨rfl, hb6, hs6⟩
        refine ⟨_, rfl, ?_⟩
        have HB6 := Aside0.mk hb6
        have HS6 := Aside0.mk hs6
        have HL6 := Aside0.mk (HBl.out.trans (hb6.below (B := w.heap.size) (fun k hk e => by have := HG.out.1; omega) HBl.out.size))
        have zi6 := hb6.cell zi HZs.out
        have HR6 := Aside0.mk (HRk.out.step hb6 (fun e => HG.out.2.2.1 e.symm) (fun k _ h e => (HKr.out k h.1).2.2 e))
        clear hb6 hs6
        refine hK.out _ _ (zi6) (fun hHeld => ?_)
        clear hK K
        refine norm_ (a' := ?_) ?_ ?_
        rotate_left
        · show Act.put _ (some 35) _ = _
          simp only [Act.put, List.setIfInBounds_toArray, List.set_cons_zero, List.set_cons_succ, i64_w, i32_w]
          rfl
        refine one_ (i := 11) (N := some 41) #[true, true, true, true, true, true, true, true, true, true, true, true, false, false, false, false, false, false, false, false, false, false, false, false, false, false, false, false, false, false] rfl rfl (by kernel_rfl) (by decide) (fun K hK => ?_)
        refine goes_ Try.func11 (by kernel_rfl) rfl #[.pointer (some ⟨gr, 0, none⟩), .slice A' li.length c'] (by rfl) rfl rfl (by simp only [List.map_toArray, List.map_cons, List.map_nil]; rfl) ?_
        with_reducible refine (HRA.out w6 _ (Kd.C_below HCr.out HL6.out) HR6.out).mono ?_
        rintro e w7 ⟨rfl, hb7, hr7⟩
        refine ⟨_, rfl, ?_⟩
        have HB7 := Aside0.mk hb7
        have HR7 := Aside0.mk hr7
        have zi7 := hb7.cell zi6 HZr.out
        obtain ⟨Ar, cr, hbr, _, _, _⟩ := hr7.open_
        have yr7 := (blk_cell hbr 0).trans (show _ = some (.slice Ar BN.length cr : Value) from rfl)
        have HS7 := Aside0.mk ((HS6.out.more (ok' := fun k => (oks k ∨ wr.heap.size ≤ k) ∧ k < w6.heap.size) (fun k hk h => ⟨h, hk⟩) (fun h => HS6.out.og h.1)).step hb7 (fun e => by rcases e with e | e; exact HG.out.2.2.1 e; exact (HKr.out _ e.1).2.2 rfl) (fun k _ h e => by rcases e with e | e; (rcases h.1 with h1 | h1; exact (HKs.out k h1).2.2 e; (have := HRk.out.lt; have : wr.drew.heap.size = wr.heap.size := rfl; omega)); (rcases h.1 with h1 | h1; exact HDis.out k e.2 h1 e.1; have := e.2; omega)))
        clear hb7 hr7 hbr
        refine hK.out _ _ (zi7) (fun hHeld => ?_)
        clear hK K
        refine norm_ (a' := ?_) ?_ ?_
        rotate_left
        · show Act.put _ (some 41) _ = _
          simp only [Act.put, List.setIfInBounds_toArray, List.set_cons_zero, List.set_cons_succ, i64_w, i32_w]
          rfl
        refine Mine.more_held (S' := fun w' => w'.cell? (ad.add i.toNat) = some (.slice A' li.length c') ∧ w'.cell? ⟨gr, 0, none⟩ = some (.slice Ar BN.length cr)) (fun w' h' => h'.1) _ _ _ _ (show _ from ⟨hHeld, yr7⟩) ?_
        replace hHeld := And.intro hHeld ((yr7))
        refine Mine.pS 12 (some 42) ?_; refine Mine.pS 13 (some 43) ?_; refine Mine.pS 14 (some 44) ?_; refine Mine.pS 16 (some 46) ?_; refine Mine.pS 17 (some 47) ?_; refine Mine.pS 18 (some 48) ?_; refine Mine.tS 19 (some 49) hHeld ?_; refine Mine.pS 20 (some 50) ?_
        refine one_ (i := 15) (N := some 45) #[true, true, true, true, true, true, true, true, true, true, true, true, true, true, true, true, true, true, true, true, true, false, false, false, false, false, false, false, false, false] rfl rfl (by kernel_rfl) (by decide) (fun K hK => ?_)
        refine goes_ Try.func12 (by kernel_rfl) rfl #[.pointer (some ⟨gs, 0, none⟩)] (by rfl) rfl rfl (by simp only [List.map_toArray, List.map_cons, List.map_nil]; rfl) ?_
        with_reducible refine (stack_Stack_Len.sk gs BN _ _ w7 HS7.out).mono ?_
        rintro e w8 ⟨rfl, rfl⟩
        refine ⟨_, rfl, ?_⟩
        refine hK.out _ _ ⟨hHeld.1, hHeld.2⟩ (fun hHeld => ?_)
        clear hK K
        refine norm_ (a' := ?_) ?_ ?_
        rotate_left
        · show Act.put _ (some 45) _ = _
          simp only [Act.put, List.setIfInBounds_toArray, List.set_cons_zero, List.set_cons_succ, i64_w, i32_w]
          rfl
        refine Mine.pS 21 (some 51) ?_; refine Mine.pS 22 (some 52) ?_; refine Mine.pS 23 (some 53) ?_; refine Mine.pS 24 (some 54) ?_; refine Mine.pS 26 (some 56) ?_
        refine one_ (i := 25) (N := some 55) #[true, true, true, true, true, true, true, true, true, true, true, true, true, true, true, true, true, true, true, true, true, true, true, true, true, true, true, false, false, false] rfl rfl (by kernel_rfl) (by decide) (fun K hK => ?_)
        refine goes_ Try.func13 (by kernel_rfl) rfl #[.pointer (some ⟨gs, 0, none⟩)] (by rfl) rfl rfl (by simp only [List.map_toArray, List.map_cons, List.map_nil]; rfl) ?_
        with_reducible refine (stack_Stack_Cost.sk gs BN _ _ w7 HS7.out).mono ?_
        rintro e w8 ⟨rfl, rfl⟩
        refine ⟨_, rfl, ?_⟩
        refine hK.out _ _ ⟨hHeld.1, hHeld.2⟩ (fun hHeld => ?_)
        clear hK K
        refine norm_ (a' := ?_) ?_ ?_
        rotate_left
        · show Act.put _ (some 55) _ = _
          simp only [Act.put, List.setIfInBounds_toArray, List.set_cons_zero, List.set_cons_succ, i64_w, i32_w]
          rfl
        refine one_ (i := 27) (N := some 57) #[true, true, true, true, true, true, true, true, true, true, true, true, true, true, true, true, true, true, true, true, true, true, true, true, true, true, true, true, false, false] rfl rfl (by kernel_rfl) (by decide) (fun K hK => ?_)
        refine goes_ Try.func14 (by kernel_rfl) rfl #[.pointer (some ⟨gr, 0, none⟩)] (by rfl) rfl rfl (by simp only [List.map_toArray, List.map_cons, List.map_nil]; rfl) ?_
        with_reducible refine (fairleadref15_Stack_Cost.sk gr BN _ w7 HR7.out HLen.out HMem.out).mono ?_
        rintro e w8 ⟨rfl, rfl⟩
        refine ⟨_, rfl, ?_⟩
        refine hK.out _ _ ⟨hHeld.1, hHeld.2⟩ (fun hHeld => ?_)
        clear hK K
        refine norm_ (a' := ?_) ?_ ?_
        rotate_left
        · show Act.put _ (some 57) _ = _
          simp only [Act.put, List.setIfInBounds_toArray, List.set_cons_zero, List.set_cons_succ, i64_w, i32_w]
          rfl
        refine Mine.pS 28 (some 58) ?_; refine Mine.pS 29 (some 59) ?_
        refine done_ (by kernel_rfl) ?_
        go_wp2
        go_roundg k2
        case measure => have := hk2.out; omega
        case rel =>
          have hl7 : Below w.heap.size w w7 := HL6.out.trans (HB7.out.below (B := w.heap.size) (fun k hk e => by rcases e with e | e; (have := HG.out.2.1; omega); (have := (HKr.out k e.1).1; omega)) HL6.out.size)
          have hgd := blk_lt HBd.out
          have hgr := HRk.out.lt
          have hgs := HS6.out.lt
          have hd : wr.drew.heap.size = wr.heap.size := rfl
          have h6 := HB6.out.size
          refine ⟨i + 1, j + 1, by first | rfl | (rw [show wrap64 (i + 1) = i + 1 by (unfold wrap64; omega)]), ⟨by have := hi.out; omega⟩, ⟨hjl⟩, ⟨by have := hk2.out; omega⟩, ⟨?_⟩⟩
          rw [← HBN.out]
          refine ⟨hl7, HB7.out.blk (HB6.out.blk HBd.out (fun e => HG.out.2.2.2.1 e)) (fun e => by rcases e with e | e; exact HG.out.2.2.2.2 e; exact (HKr.out gd e.1).2.1 rfl), HG.out, _, _, ?_, ?_, ?_, HS7.out, HR7.out⟩
          · intro k _ h1 h2
            rcases h2 with h2 | h2
            · rcases h1.1 with h1 | h1
              · exact HDis.out k h2.2 h1 h2.1
              · omega
            · omega
          · intro k h1
            rcases h1.1 with h1 | h1
            · exact HKs.out k h1
            · exact ⟨Nat.le_trans HBl.out.size h1, by omega, by omega⟩
          · intro k h1
            rcases h1 with h1 | h1
            · exact HKr.out k h1.1
            · exact ⟨Nat.le_trans HL6.out.size h1, by omega, by omega⟩
      · have b1 : decide (i < (L.length : Int)) = false := decide_eq_false hlt
        have hj2 : j = L.length := by have := hi.out; have := hj.out; omega
        rw [hj2, List.take_length] at hB
        have hfit := fit_built ck L L (fun l hl => hl)
        obtain ⟨B, hBB⟩ : ∃ B, B = BUILT ck L := ⟨_, rfl⟩
        rw [← hBB] at hB hfit
        have H4' := Aside0.mk H4.out
        have H5' := Aside0.mk H5.out
        have H6' := Aside0.mk H6.out
        have H7' := Aside0.mk H7.out
        rw [← hBB] at H4' H5' H6' H7'
        obtain ⟨oks, okr, _, _, _, hSk, hRk⟩ := hB.out.st
        have HSk := Aside0.mk hSk
        have HRk := Aside0.mk hRk
        have HBl := Aside0.mk hB.out.below
        have HBd := Aside0.mk hB.out.bd
        have HLen := Aside0.mk hfit.len
        obtain ⟨X, hX⟩ : ∃ X, X = stFind m (stVals val B) ((B.length : Int) - 1) := ⟨_, rfl⟩
        have HX := Aside0.mk hX
        have q1 : (m == m) = true := by simp
        have q2 : (X == X) = true := by simp
        clear hSk hRk hB hfit hBB hX
        go_wp2_with (first | ((with_reducible refine gate_dst (N := 62) rfl ?_); refine wpList_load_row rfl 27 (.tmp 3) rfl gd rfl 27 (#[.int .u32 d0, .int .u32 d1, .int .u64 d2, .int .u64 d3, .int .u64 d4, .int .u64 d5, .int .u64 d6, .int .u64 d7, .int .u64 d8]) (0, 0) _ HBd.out hu27_ rfl (by kernel_rfl) ?_) | (go_at_call 15; (refine (stack_Stack_Run.calls k gs B (costOf B) d0 d1 d2 d3 d4 d5 d6 d7 d8 val m oks _ HSk.out H4'.out H6'.out HLen.out).mono ?_); rintro e w8 ⟨he, hb⟩; rw [← HX.out] at he; subst he; have HB8 := Aside0.mk hb; have HBd8 := Aside0.mk (blk_below HBd.out hb); clear hb) | ((with_reducible refine gate_dst (N := 68) rfl ?_); refine wpList_load_row rfl 27 (.tmp 3) rfl gd rfl 27 (#[.int .u32 d0, .int .u32 d1, .int .u64 d2, .int .u64 d3, .int .u64 d4, .int .u64 d5, .int .u64 d6, .int .u64 d7, .int .u64 d8]) (0, 0) _ HBd8.out hu27_ rfl (by kernel_rfl) ?_) | (go_at_call 16; (refine (fairleadref15_Stack_Run.sk k gr B d0 d1 d2 d3 d4 d5 d6 d7 d8 val m okr _ (HRk.out.below HB8.out) H5'.out H7'.out HLen.out).mono ?_); rintro e w9 ⟨he, hb⟩; rw [← HX.out] at he; subst he; have HB9 := Aside0.mk hb; clear hb))
        go_ret
        exact ⟨rfl, below_step (below_step HBl.out HB8.out) HB9.out⟩
/-- What is to be shown of fairleadlaw15_StackPlays, without Go and memory. -/
def fairleadlaw15_StackPlays.Pure : Prop := ∀ (l0 : List (List S53)) (d0 d1 d2 d3 d4 d5 d6 d7 d8 : Int), (l0.length ≤ 9223372036854775807 ∧ ∀ x ∈ l0, x.length ≤ 9223372036854775807 ∧ ∀ y ∈ x, (0 ≤ y.f0 ∧ y.f0 ≤ 65535) ∧ (0 ≤ y.f1 ∧ y.f1 ≤ 255) ∧ (0 ≤ y.f2 ∧ y.f2 ≤ 255) ∧ (0 ≤ y.f3 ∧ y.f3 ≤ 4294967295)) → ((0 ≤ d0 ∧ d0 ≤ 4294967295) ∧ (0 ≤ d1 ∧ d1 ≤ 4294967295) ∧ (0 ≤ d2 ∧ d2 ≤ 18446744073709551615) ∧ ((0 ≤ d3 ∧ d3 ≤ 18446744073709551615) ∧ (0 ≤ d4 ∧ d4 ≤ 18446744073709551615) ∧ (0 ≤ d5 ∧ d5 ≤ 18446744073709551615) ∧ (0 ≤ d6 ∧ d6 ≤ 18446744073709551615) ∧ (0 ≤ d7 ∧ d7 ≤ 18446744073709551615) ∧ (0 ≤ d8 ∧ d8 ≤ 18446744073709551615))) → ∃ k, fairleadlaw15_StackPlays.P k l0 d0 d1 d2 d3 d4 d5 d6 d7 d8 ∧ true = true
end Go.Proofs.Yteojfjlklikaoaa.M
