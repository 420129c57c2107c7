-- Laid by a program (wip/tools/myprint.py) out of the loaded program's own print: for each Go function a Lean function and the proof of its contract.
import Derived.Test.YtfahchgglapglaaQMx0
import Derived.Test.YtfahchgglapglaaQMx14
namespace Go.Proofs.Ytfahchgglapglaa.M
open Go.RowKit Go.Proofs.YtfahchgglapglaaW.PrintWords Go.Proofs.YtfahchgglapglaaW.PrintLast Go.Proofs.YtfahchgglapglaaW.PrintMore
attribute [local go_sem] max2_int min2_int max_two min_two max_three min_three max_four min_four   -- for this text's walks alone
set_option linter.unusedVariables false
set_option linter.unusedSimpArgs false
-- HAND rounds=True making=True
def fairleadref10_Place_act.f (k : Nat) (s0_0 : List (S39)) (s0_1 s0_2 s0_3 : Int) : Option (Int × Int × Int × Int × Int) := if 0 ≤ s0_1 ∧ s0_1 < (s0_0.length : Int) then ((fairleadref10_kind.f k (rd_T39 s0_0 s0_1).f2).bind fun K => if (rd_T39 s0_0 s0_1).f0 ≠ 1 ∨ K = 0 then (fairleadref10_Place_fail.f s0_0 s0_1 s0_2 s0_3 7).bind fun r => some (0, 0, r.1, r.2.1, r.2.2) else if K ≠ 3 ∧ K ≠ 4 ∧ K ≠ 6 then some (K, 0, (wrap64 (s0_1 + 1)), s0_2, s0_3) else if 0 ≤ (wrap64 (s0_1 + 1)) ∧ (wrap64 (s0_1 + 1)) < (s0_0.length : Int) then (if (rd_T39 s0_0 (wrap64 (s0_1 + 1))).f0 = 2 ∧ 65535 < (rd_T39 s0_0 (wrap64 (s0_1 + 1))).f3 then (fairleadref10_Place_fail.f s0_0 (wrap64 (s0_1 + 1)) s0_2 s0_3 6).bind fun r => some (0, 0, r.1, r.2.1, r.2.2) else (fairleadref10_Place_number.f s0_0 (wrap64 (s0_1 + 1)) s0_2 s0_3).bind fun r => some (K, wrap64 r.1, r.2.1, r.2.2.1, r.2.2.2)) else none) else none
set_option maxHeartbeats 8000000 in
set_option maxRecDepth 100000 in
theorem fairleadref10_Place_act.calls (k : Nat) (g : Nat) (s0_0 : List (S39)) (s0_1 : Int) (s0_2 : Int) (s0_3 : Int) (r1 : Int) (r2 : Int) (r3 : Int) (r4 : Int) (r5 : Int) (w0 w : World) (hI : IsS60 w0 w g s0_0 s0_1 s0_2 s0_3) (hB : Below w0.heap.size w0 w) (h : fairleadref10_Place_act.f k s0_0 s0_1 s0_2 s0_3 = some (r1, r2, r3, r4, r5)) :
  Calls Try.prog 24 #[.pointer (some ⟨g, 0, none⟩)] w fun e w' => e = .returned (.agg #[.int .i64 r1, .int .i64 r2]) ∧ IsS60 w0 w' g s0_0 r3 r4 r5 ∧ Below w0.heap.size w0 w' ∧ KeepBut w w' g none := by
 have hu39_ := Try.underlying39
 have hu60_ := Try.underlying60
 have hu24_ := Try.underlying24
 have HI := Aside0.mk hI
 have HB := Aside0.mk hB
 clear hI hB
 unfold fairleadref10_Place_act.f at h
 obtain ⟨A0, c0, HG, hg, HC0⟩ := HI.out
 have HC := Aside0.mk HC0
 have HGE := Aside0.mk hg
 have z0 := cellS60_0 HG
 have z1 := cellS60_1 HG
 have HG := Aside0.mk HG
 clear HC0 hg
 by_cases hn : 0 ≤ s0_1 ∧ s0_1 < (s0_0.length : Int)
 ·rw [if_pos hn] at h
  obtain ⟨ad, rfl, x0, x1, x2, x3⟩ := at_T39 HC.out s0_1 hn.1 hn.2
  have e0 := eq_true hn.1
  have e1 := eq_true hn.2
  have H := Aside0.mk h
  clear h hn
  go_enter Try.func24, Try.ntmps24
  go_wp2
  have HG3 := Aside0.mk (blk_drew (blk_alloc HG.out (Obj.cells #[.int .i64 0, .int .i64 0] 24)))
  have HB3 := Aside0.mk (below_drew1 (below_alloc HB.out (Obj.cells #[.int .i64 0, .int .i64 0] 24)))
  refine start_ (n := 12) (S := fun w' => w'.cell? ⟨g, 0, none⟩ = some (.slice (some ad) s0_0.length c0) ∧ w'.cell? ⟨g, 1, none⟩ = some (.int .i64 s0_1) ∧ w'.cell? (ad.add (s0_1.toNat * 4)) = some (.int .i64 (rd_T39 s0_0 s0_1).f0) ∧ w'.cell? ⟨(ad.add (s0_1.toNat * 4)).block, (ad.add (s0_1.toNat * 4)).off + 1, none⟩ = some (.int .i64 (rd_T39 s0_0 s0_1).f1) ∧ w'.cell? ⟨(ad.add (s0_1.toNat * 4)).block, (ad.add (s0_1.toNat * 4)).off + 2, none⟩ = some (.string (rd_T39 s0_0 s0_1).f2) ∧ w'.cell? ⟨(ad.add (s0_1.toNat * 4)).block, (ad.add (s0_1.toNat * 4)).off + 3, none⟩ = some (.int .u64 (rd_T39 s0_0 s0_1).f3)) (ds := [11]) #[false, false, false, false, false, false, false, false, false, false, false, false] (by kernel_rfl) rfl rfl ⟨((blk_cell HG3.out 0).trans rfl), ((blk_cell HG3.out 1).trans rfl), (pw_cell_below HB3.out x0), (pw_cell_below HB3.out x1), (pw_cell_below HB3.out x2), (pw_cell_below HB3.out x3)⟩ (fun hHeld => ?_)
  refine Mine.pS 0 (some 6) ?_; refine Mine.pS 1 (some 7) ?_; refine Mine.pS 2 (some 8) ?_; refine Mine.pS 4 (some 10) ?_; refine Mine.pS 5 (some 11) ?_; refine Mine.pS 6 (some 12) ?_; refine Mine.tS 3 (some 9) hHeld ?_; refine Mine.tS 7 (some 13) hHeld ?_; refine Mine.pS 8 (some 14) ?_; refine Mine.tS 9 (some 15) hHeld ?_
  refine one_ (i := 10) (N := some 3) #[true, true, true, true, true, true, true, true, true, true, true, false] rfl rfl (by kernel_rfl) (by decide) (fun K hK => ?_)
  refine value_ (w1 := ?_) (v := ?_) (by rfl) rfl ?_ ?_
  rotate_left 2
  ·go_simp
   constructor
   ·rfl
   ·rfl
  refine hK.out _ _ ⟨((blk_cell (blk_alloc HG3.out _) 0).trans rfl), ((blk_cell (blk_alloc HG3.out _) 1).trans rfl), (pw_cell_below (below_alloc HB3.out _) x0), (pw_cell_below (below_alloc HB3.out _) x1), (pw_cell_below (below_alloc HB3.out _) x2), (pw_cell_below (below_alloc HB3.out _) x3)⟩ (fun hHeld => ?_)
  clear hK K
  refine norm_ (a' := ?_) ?_ ?_
  rotate_left
  ·show Act.put _ (some 3) _ = _
   simp only [Act.put, List.setIfInBounds_toArray, List.set_cons_zero, List.set_cons_succ, i64_w, i32_w]
   rfl
  refine last_ (i := 11) (N := none) #[true, true, true, true, true, true, true, true, true, true, true, true] rfl rfl (by kernel_rfl) (by decide) (fun K hK => ?_)
  refine skip_ (w1 := ?_) (by rfl) rfl ?_ ?_
  rotate_left
  ·go_simp
   rfl
  refine hK.out _ _ ?_
  clear hK K
  refine done_ (by kernel_rfl) ?_
  have HI1 : Aside0 (IsS60 w0 (((w.alloc (Obj.cells #[.int .i64 0, .int .i64 0] 24)).alloc (Obj.cells #[.int .i64 (rd_T39 s0_0 s0_1).f0, .int .i64 (rd_T39 s0_0 s0_1).f1, .string (rd_T39 s0_0 s0_1).f2, .int .u64 (rd_T39 s0_0 s0_1).f3] 39)).drew) g s0_0 s0_1 s0_2 s0_3) := ⟨⟨_, c0, blk_drew (blk_alloc (blk_alloc HG.out _) _), HGE.out, HC.out⟩⟩
  have HG1 := Aside0.mk (blk_drew (blk_alloc (blk_alloc HG.out (Obj.cells #[.int .i64 0, .int .i64 0] 24)) (Obj.cells #[.int .i64 (rd_T39 s0_0 s0_1).f0, .int .i64 (rd_T39 s0_0 s0_1).f1, .string (rd_T39 s0_0 s0_1).f2, .int .u64 (rd_T39 s0_0 s0_1).f3] 39)))
  have HR1 := Aside0.mk (blk_drew (blk_alloc (blk_new w (Obj.cells #[.int .i64 0, .int .i64 0] 24)) (Obj.cells #[.int .i64 (rd_T39 s0_0 s0_1).f0, .int .i64 (rd_T39 s0_0 s0_1).f1, .string (rd_T39 s0_0 s0_1).f2, .int .u64 (rd_T39 s0_0 s0_1).f3] 39)))
  have HN1 := Aside0.mk (blk_drew (blk_new (w.alloc (Obj.cells #[.int .i64 0, .int .i64 0] 24)) (Obj.cells #[.int .i64 (rd_T39 s0_0 s0_1).f0, .int .i64 (rd_T39 s0_0 s0_1).f1, .string (rd_T39 s0_0 s0_1).f2, .int .u64 (rd_T39 s0_0 s0_1).f3] 39)))
  have HB1 := Aside0.mk (below_drew1 (below_alloc (below_alloc HB.out (Obj.cells #[.int .i64 0, .int .i64 0] 24)) (Obj.cells #[.int .i64 (rd_T39 s0_0 s0_1).f0, .int .i64 (rd_T39 s0_0 s0_1).f1, .string (rd_T39 s0_0 s0_1).f2, .int .u64 (rd_T39 s0_0 s0_1).f3] 39)))
  have HK1 := Aside0.mk (keep_drew (keep_alloc (keep_alloc (KeepBut.refl w g none) (Obj.cells #[.int .i64 0, .int .i64 0] 24)) (Obj.cells #[.int .i64 (rd_T39 s0_0 s0_1).f0, .int .i64 (rd_T39 s0_0 s0_1).f1, .string (rd_T39 s0_0 s0_1).f2, .int .u64 (rd_T39 s0_0 s0_1).f3] 39)))
  have ha : g ≠ w.heap.size := Nat.ne_of_lt (blk_lt HG.out)
  have hb : g ≠ (w.alloc (Obj.cells #[.int .i64 0, .int .i64 0] 24)).heap.size := Nat.ne_of_lt (blk_lt (blk_alloc HG.out (Obj.cells #[.int .i64 0, .int .i64 0] 24)))
  have hc : w.heap.size ≠ (w.alloc (Obj.cells #[.int .i64 0, .int .i64 0] 24)).heap.size := Nat.ne_of_lt (blk_lt (blk_new w (Obj.cells #[.int .i64 0, .int .i64 0] 24)))
  have hrb : w0.heap.size ≤ w.heap.size := HB.out.size
  have hsz : (w.alloc (Obj.cells #[.int .i64 0, .int .i64 0] 24)).heap.size = w.heap.size + 1 := Array.size_push ..
  rw [hsz] at HN1 hb hc
  generalize (((w.alloc (Obj.cells #[.int .i64 0, .int .i64 0] 24)).alloc (Obj.cells #[.int .i64 (rd_T39 s0_0 s0_1).f0, .int .i64 (rd_T39 s0_0 s0_1).f1, .string (rd_T39 s0_0 s0_1).f2, .int .u64 (rd_T39 s0_0 s0_1).f3] 39)).drew) = W1 at HI1 HG1 HR1 HN1 HB1 HK1 ⊢
  clear z0 z1 x0 x1 x2 x3 HG3 HB3 e0 e1 hsz
  have ha' := ha.symm
  have hb' := hb.symm
  have hc' := hc.symm
  have H' := H.out
  obtain ⟨K, hkd, H'⟩ := Option.bind_eq_some_iff.mp H'
  have HKD := Aside0.mk hkd
  clear hkd H
  have y0 := (blk_cell HN1.out 0).trans (show _ = some (.int .i64 (rd_T39 s0_0 s0_1).f0 : Value) from rfl)
  have y2 := (blk_cell HN1.out 2).trans (show _ = some (.string (rd_T39 s0_0 s0_1).f2 : Value) from rfl)
  by_cases hA : (rd_T39 s0_0 s0_1).f0 ≠ 1 ∨ K = 0
  ·rw [if_pos hA] at H'
   obtain ⟨⟨p1, p2, p3⟩, hf, H'⟩ := Option.bind_eq_some_iff.mp H'
   obtain ⟨q1, q2, q3, q4, q5⟩ : 0 = r1 ∧ 0 = r2 ∧ p1 = r3 ∧ p2 = r4 ∧ p3 = r5 := by simpa using H'
   subst q1 q2 q3 q4 q5
   have HF := Aside0.mk hf
   clear H' hf
   by_cases h1 : (rd_T39 s0_0 s0_1).f0 = 1
   ·have k1 : ((rd_T39 s0_0 s0_1).f0 != 1) = false := bne_eq_false_iff_eq.2 h1
    have k2 : (K == 0) = true := beq_iff_eq.2 (hA.resolve_left (fun e => e h1))
    clear hA h1
    go_wp2_with (first | (go_at_call 37; (with_reducible refine (fairleadref10_kind.calls k (rd_T39 s0_0 s0_1).f2 K _ HKD.out).mono ?_); rintro e w2 ⟨rfl, hb2⟩; have HG2 := Aside0.mk (blk_below HG1.out hb2); have HR2 := Aside0.mk (blk_below HR1.out hb2); have HN2 := Aside0.mk (blk_below HN1.out hb2); have HI2 : Aside0 (IsS60 w0 w2 g s0_0 s0_1 s0_2 s0_3) := ⟨⟨_, c0, HG2.out, HGE.out, HC.out⟩⟩; have HB2 := Aside0.mk (below_step HB1.out hb2); have HK2 := Aside0.mk (HK1.out.trans (KeepBut.of_below hb2 g none) (.inl rfl)); clear y0 y2; have y0 := (blk_cell HN2.out 0).trans (show _ = some (.int .i64 (rd_T39 s0_0 s0_1).f0 : Value) from rfl); have z1 := (blk_cell HG2.out 1).trans (show _ = some (.int .i64 s0_1 : Value) from rfl); have f1 := blk_frozen HG2.out 1; have v0 := (blk_cell HR2.out 0).trans (show _ = some (.int .i64 0 : Value) from rfl); have v1 := (blk_cell HR2.out 1).trans (show _ = some (.int .i64 0 : Value) from rfl); have fv := blk_frozen HR2.out; clear hb2) | (go_at_call 23; (with_reducible refine (fairleadref10_Place_fail.calls g s0_0 s0_1 s0_2 s0_3 7 p1 p2 p3 w0 _ HI2.out HB2.out HF.out).mono ?_); rintro e w3 ⟨rfl, hI3, hB3, hK3⟩; have HI3 := Aside0.mk hI3; have HB3 := Aside0.mk hB3; have HK3 := Aside0.mk (HK2.out.trans hK3 (.inl rfl)); have HR3 := Aside0.mk ((hK3.2 w.heap.size (blk_lt HR2.out) ha' (by simp)).trans HR2.out); clear y0 z1 f1 v0 v1 fv; have v0 := (blk_cell HR3.out 0).trans (show _ = some (.int .i64 0 : Value) from rfl); have v1 := (blk_cell HR3.out 1).trans (show _ = some (.int .i64 0 : Value) from rfl); have fv := blk_frozen HR3.out; clear hI3 hB3 hK3))
    (repeat (go_step3; (try go_wp2)))
    refine bodyPost_ret (results_cell_row rfl _ _ w.heap.size 24 (#[.int .i64 0, .int .i64 0]) (0, 0) _ rfl (blk_put (cs' := #[.int .i64 0, .int .i64 0]) (blk_put (cs' := #[.int .i64 0, .int .i64 0]) HR3.out 0 (.int .i64 0) rfl) 1 (.int .i64 0) rfl) hu24_ rfl (by kernel_rfl)) rfl ?_
    obtain ⟨A3, c3, G3, hg3, hC3⟩ := HI3.out
    exact ⟨rfl, ⟨A3, c3, (blk_far (p := ⟨w.heap.size, 1, none⟩) (blk_far (p := ⟨w.heap.size, 0, none⟩) G3 ha _) ha _), hg3, hC3⟩, below_set (g := w.heap.size) (j := 1) (v := .int .i64 0) (below_set (g := w.heap.size) (j := 0) (v := .int .i64 0) HB3.out hrb) hrb, keep_far (p := ⟨w.heap.size, 1, none⟩) (keep_far (p := ⟨w.heap.size, 0, none⟩) HK3.out (Nat.le_refl _) _) (Nat.le_refl _) _⟩
   ·have k1 : ((rd_T39 s0_0 s0_1).f0 != 1) = true := bne_iff_ne.2 h1
    clear hA h1
    go_wp2_with (first | (go_at_call 37; (with_reducible refine (fairleadref10_kind.calls k (rd_T39 s0_0 s0_1).f2 K _ HKD.out).mono ?_); rintro e w2 ⟨rfl, hb2⟩; have HG2 := Aside0.mk (blk_below HG1.out hb2); have HR2 := Aside0.mk (blk_below HR1.out hb2); have HN2 := Aside0.mk (blk_below HN1.out hb2); have HI2 : Aside0 (IsS60 w0 w2 g s0_0 s0_1 s0_2 s0_3) := ⟨⟨_, c0, HG2.out, HGE.out, HC.out⟩⟩; have HB2 := Aside0.mk (below_step HB1.out hb2); have HK2 := Aside0.mk (HK1.out.trans (KeepBut.of_below hb2 g none) (.inl rfl)); clear y0 y2; have y0 := (blk_cell HN2.out 0).trans (show _ = some (.int .i64 (rd_T39 s0_0 s0_1).f0 : Value) from rfl); have z1 := (blk_cell HG2.out 1).trans (show _ = some (.int .i64 s0_1 : Value) from rfl); have f1 := blk_frozen HG2.out 1; have v0 := (blk_cell HR2.out 0).trans (show _ = some (.int .i64 0 : Value) from rfl); have v1 := (blk_cell HR2.out 1).trans (show _ = some (.int .i64 0 : Value) from rfl); have fv := blk_frozen HR2.out; clear hb2) | (go_at_call 23; (with_reducible refine (fairleadref10_Place_fail.calls g s0_0 s0_1 s0_2 s0_3 7 p1 p2 p3 w0 _ HI2.out HB2.out HF.out).mono ?_); rintro e w3 ⟨rfl, hI3, hB3, hK3⟩; have HI3 := Aside0.mk hI3; have HB3 := Aside0.mk hB3; have HK3 := Aside0.mk (HK2.out.trans hK3 (.inl rfl)); have HR3 := Aside0.mk ((hK3.2 w.heap.size (blk_lt HR2.out) ha' (by simp)).trans HR2.out); clear y0 z1 f1 v0 v1 fv; have v0 := (blk_cell HR3.out 0).trans (show _ = some (.int .i64 0 : Value) from rfl); have v1 := (blk_cell HR3.out 1).trans (show _ = some (.int .i64 0 : Value) from rfl); have fv := blk_frozen HR3.out; clear hI3 hB3 hK3))
    (repeat (go_step3; (try go_wp2)))
    refine bodyPost_ret (results_cell_row rfl _ _ w.heap.size 24 (#[.int .i64 0, .int .i64 0]) (0, 0) _ rfl (blk_put (cs' := #[.int .i64 0, .int .i64 0]) (blk_put (cs' := #[.int .i64 0, .int .i64 0]) HR3.out 0 (.int .i64 0) rfl) 1 (.int .i64 0) rfl) hu24_ rfl (by kernel_rfl)) rfl ?_
    obtain ⟨A3, c3, G3, hg3, hC3⟩ := HI3.out
    exact ⟨rfl, ⟨A3, c3, (blk_far (p := ⟨w.heap.size, 1, none⟩) (blk_far (p := ⟨w.heap.size, 0, none⟩) G3 ha _) ha _), hg3, hC3⟩, below_set (g := w.heap.size) (j := 1) (v := .int .i64 0) (below_set (g := w.heap.size) (j := 0) (v := .int .i64 0) HB3.out hrb) hrb, keep_far (p := ⟨w.heap.size, 1, none⟩) (keep_far (p := ⟨w.heap.size, 0, none⟩) HK3.out (Nat.le_refl _) _) (Nat.le_refl _) _⟩
  ·rw [if_neg hA] at H'
   have h1 : (rd_T39 s0_0 s0_1).f0 = 1 := Decidable.byContradiction (fun e => hA (.inl e))
   have h2 : K ≠ 0 := fun e => hA (.inr e)
   have k1 : ((rd_T39 s0_0 s0_1).f0 != 1) = false := bne_eq_false_iff_eq.2 h1
   have k2 : (K == 0) = false := beq_eq_false_iff_ne.2 h2
   clear hA h1 h2
   by_cases hK : K ≠ 3 ∧ K ≠ 4 ∧ K ≠ 6
   ·rw [if_pos hK] at H'
    obtain ⟨q1, q2, q3, q4, q5⟩ : K = r1 ∧ 0 = r2 ∧ (wrap64 (s0_1 + 1)) = r3 ∧ s0_2 = r4 ∧ s0_3 = r5 := by simpa using H'
    subst q1 q2 q3 q4 q5
    have k3 : (K != 3) = true := bne_iff_ne.2 hK.1
    have k4 : (K != 4) = true := bne_iff_ne.2 hK.2.1
    have k6 : (K != 6) = true := bne_iff_ne.2 hK.2.2
    clear hK H'
    go_wp2_with (first | (go_at_call 37; (with_reducible refine (fairleadref10_kind.calls k (rd_T39 s0_0 s0_1).f2 K _ HKD.out).mono ?_); rintro e w2 ⟨rfl, hb2⟩; have HG2 := Aside0.mk (blk_below HG1.out hb2); have HR2 := Aside0.mk (blk_below HR1.out hb2); have HN2 := Aside0.mk (blk_below HN1.out hb2); have HI2 : Aside0 (IsS60 w0 w2 g s0_0 s0_1 s0_2 s0_3) := ⟨⟨_, c0, HG2.out, HGE.out, HC.out⟩⟩; have HB2 := Aside0.mk (below_step HB1.out hb2); have HK2 := Aside0.mk (HK1.out.trans (KeepBut.of_below hb2 g none) (.inl rfl)); clear y0 y2; have y0 := (blk_cell HN2.out 0).trans (show _ = some (.int .i64 (rd_T39 s0_0 s0_1).f0 : Value) from rfl); have z1 := (blk_cell HG2.out 1).trans (show _ = some (.int .i64 s0_1 : Value) from rfl); have f1 := blk_frozen HG2.out 1; have v0 := (blk_cell HR2.out 0).trans (show _ = some (.int .i64 0 : Value) from rfl); have v1 := (blk_cell HR2.out 1).trans (show _ = some (.int .i64 0 : Value) from rfl); have fv := blk_frozen HR2.out; clear hb2))
    (repeat (go_step3; (try go_wp2)))
    refine bodyPost_ret (results_cell_row rfl _ _ w.heap.size 24 (#[.int .i64 K, .int .i64 0]) (0, 0) _ rfl (blk_put (cs' := #[.int .i64 K, .int .i64 0]) (blk_put (cs' := #[.int .i64 K, .int .i64 0]) (blk_far (p := ⟨g, 1, none⟩) HR2.out ha' _) 0 (.int .i64 K) rfl) 1 (.int .i64 0) rfl) hu24_ rfl (by kernel_rfl)) rfl ?_
    exact ⟨rfl, ⟨_, c0, (blk_far (p := ⟨w.heap.size, 1, none⟩) (blk_far (p := ⟨w.heap.size, 0, none⟩) (blk_put (cs' := #[.slice (some ad) s0_0.length c0, .int .i64 (wrap64 (s0_1 + 1)), .int .i64 s0_2, .int .i64 s0_3]) HG2.out 1 (.int .i64 (wrap64 (s0_1 + 1))) rfl) ha _) ha _), HGE.out, HC.out⟩, below_set (g := w.heap.size) (j := 1) (v := .int .i64 0) (below_set (g := w.heap.size) (j := 0) (v := .int .i64 K) (below_set (g := g) (j := 1) (v := .int .i64 (wrap64 (s0_1 + 1))) HB2.out HGE.out) hrb) hrb, keep_far (p := ⟨w.heap.size, 1, none⟩) (keep_far (p := ⟨w.heap.size, 0, none⟩) (HK2.out.set_ 1 _) (Nat.le_refl _) _) (Nat.le_refl _) _⟩
   ·skip
    rw [if_neg hK] at H'
    by_cases hn1 : 0 ≤ (wrap64 (s0_1 + 1)) ∧ (wrap64 (s0_1 + 1)) < (s0_0.length : Int)
    ·rw [if_pos hn1] at H'
     obtain ⟨ad9, e9, u0, u1, u2, u3⟩ := at_T39 HC.out (wrap64 (s0_1 + 1)) hn1.1 hn1.2
     cases e9
     have e0 := eq_true hn1.1
     have e1 := eq_true hn1.2
     clear hn1
     have J : ((K != 3) = false) ∨ ((K != 3) = true ∧ (K != 4) = false) ∨ ((K != 3) = true ∧ (K != 4) = true ∧ (K != 6) = false) := by
      rcases (show K = 3 ∨ K = 4 ∨ K = 6 by omega) with rfl | rfl | rfl <;> decide
     clear hK
     rcases J with k9 | ⟨k9, k8⟩ | ⟨k9, k8, k7⟩
     all_goals
      by_cases hC : (rd_T39 s0_0 (wrap64 (s0_1 + 1))).f0 = 2 ∧ 65535 < (rd_T39 s0_0 (wrap64 (s0_1 + 1))).f3
      ·rw [if_pos hC] at H'
       obtain ⟨⟨p1, p2, p3⟩, hf, H'⟩ := Option.bind_eq_some_iff.mp H'
       obtain ⟨q1, q2, q3, q4, q5⟩ : 0 = r1 ∧ 0 = r2 ∧ p1 = r3 ∧ p2 = r4 ∧ p3 = r5 := by simpa using H'
       subst q1 q2 q3 q4 q5
       have HF := Aside0.mk hf
       have m1 : ((rd_T39 s0_0 (wrap64 (s0_1 + 1))).f0 == 2) = true := beq_iff_eq.2 hC.1
       have m2 : decide (65535 < (rd_T39 s0_0 (wrap64 (s0_1 + 1))).f3) = true := decide_eq_true hC.2
       clear H' hf hC
       go_wp2_with (first | (go_at_call 37; (with_reducible refine (fairleadref10_kind.calls k (rd_T39 s0_0 s0_1).f2 K _ HKD.out).mono ?_); rintro e w2 ⟨rfl, hb2⟩; have HG2 := Aside0.mk (blk_below HG1.out hb2); have HR2 := Aside0.mk (blk_below HR1.out hb2); have HN2 := Aside0.mk (blk_below HN1.out hb2); have HI2 : Aside0 (IsS60 w0 w2 g s0_0 s0_1 s0_2 s0_3) := ⟨⟨_, c0, HG2.out, HGE.out, HC.out⟩⟩; have HB2 := Aside0.mk (below_step HB1.out hb2); have HK2 := Aside0.mk (HK1.out.trans (KeepBut.of_below hb2 g none) (.inl rfl)); clear y0 y2; have y0 := (blk_cell HN2.out 0).trans (show _ = some (.int .i64 (rd_T39 s0_0 s0_1).f0 : Value) from rfl); have z1 := (blk_cell HG2.out 1).trans (show _ = some (.int .i64 s0_1 : Value) from rfl); have f1 := blk_frozen HG2.out 1; have v0 := (blk_cell HR2.out 0).trans (show _ = some (.int .i64 0 : Value) from rfl); have v1 := (blk_cell HR2.out 1).trans (show _ = some (.int .i64 0 : Value) from rfl); have fv := blk_frozen HR2.out; clear hb2))
       (repeat (go_step3; (try go_wp2)))
       have GP4 := Aside0.mk (blk_drew (blk_put (cs' := #[.slice (some ad) s0_0.length c0, .int .i64 (wrap64 (s0_1 + 1)), .int .i64 s0_2, .int .i64 s0_3]) HG2.out 1 (.int .i64 (wrap64 (s0_1 + 1))) rfl))
       have HR4 := Aside0.mk (blk_drew (blk_far (p := ⟨g, 1, none⟩) HR2.out ha' (.int .i64 (wrap64 (s0_1 + 1)))))
       have HB4 := Aside0.mk (below_drew1 (below_set (g := g) (j := 1) (v := .int .i64 (wrap64 (s0_1 + 1))) HB2.out HGE.out))
       have HK4 := Aside0.mk (keep_drew (HK2.out.set_ 1 (.int .i64 (wrap64 (s0_1 + 1)))))
       have HI4 : Aside0 (IsS60 w0 ((w2.setCell ⟨g, 1, none⟩ (.int .i64 (wrap64 (s0_1 + 1)))).drew) g s0_0 (wrap64 (s0_1 + 1)) s0_2 s0_3) := ⟨⟨_, c0, GP4.out, HGE.out, HC.out⟩⟩
       refine start_ (n := 26) (S := fun w' => w'.cell? ⟨g, 0, none⟩ = some (.slice (some ad) s0_0.length c0) ∧ w'.cell? ⟨g, 1, none⟩ = some (.int .i64 (wrap64 (s0_1 + 1))) ∧ w'.cell? (ad.add ((wrap64 (s0_1 + 1)).toNat * 4)) = some (.int .i64 (rd_T39 s0_0 (wrap64 (s0_1 + 1))).f0) ∧ w'.cell? ⟨(ad.add ((wrap64 (s0_1 + 1)).toNat * 4)).block, (ad.add ((wrap64 (s0_1 + 1)).toNat * 4)).off + 3, none⟩ = some (.int .u64 (rd_T39 s0_0 (wrap64 (s0_1 + 1))).f3)) (ds := []) #[false, false, false, false, false, false, false, false, false, false, false, false, false, false, false, false, false, false, false, false, false, false, false, false, false, false] (by kernel_rfl) rfl rfl ⟨((blk_cell GP4.out 0).trans rfl), ((blk_cell GP4.out 1).trans rfl), (pw_cell_below HB4.out u0), (pw_cell_below HB4.out u3)⟩ (fun hHeld => ?_)
       refine Mine.pS 0 (some 48) ?_; refine Mine.pS 1 (some 49) ?_; refine Mine.pS 2 (some 50) ?_; refine Mine.pS 4 (some 52) ?_; refine Mine.pS 5 (some 53) ?_; refine Mine.pS 6 (some 54) ?_; refine Mine.tS 3 (some 51) hHeld ?_; refine Mine.tS 7 (some 55) hHeld ?_; refine Mine.pS 8 (some 56) ?_; refine Mine.pS 9 (some 57) ?_; refine Mine.tS 10 (some 58) hHeld ?_; refine Mine.pS 11 (some 59) ?_; refine Mine.pS 12 (some 60) ?_; refine Mine.pS 13 (some 61) ?_; refine Mine.pS 14 (some 62) ?_; refine Mine.pS 15 (some 63) ?_; refine Mine.pS 17 (some 65) ?_; refine Mine.pS 18 (some 66) ?_; refine Mine.pS 19 (some 67) ?_; refine Mine.tS 16 (some 64) hHeld ?_; refine Mine.tS 20 (some 68) hHeld ?_; refine Mine.pS 21 (some 69) ?_; refine Mine.pS 22 (some 70) ?_; refine Mine.tS 23 (some 71) hHeld ?_; refine Mine.pS 24 (some 72) ?_; refine Mine.pS 25 (some 73) ?_
       refine done_ (by kernel_rfl) ?_
       generalize ((w2.setCell ⟨g, 1, none⟩ (.int .i64 (wrap64 (s0_1 + 1)))).drew) = W4 at GP4 HR4 HB4 HK4 HI4 ⊢
       clear y0 z1 f1 v0 v1 fv u0 u1 u2 u3
       go_wp2_with (first | (go_at_call 23; (with_reducible refine (fairleadref10_Place_fail.calls g s0_0 (wrap64 (s0_1 + 1)) s0_2 s0_3 6 p1 p2 p3 w0 _ HI4.out HB4.out HF.out).mono ?_); rintro e w5 ⟨rfl, hI5, hB5, hK5⟩; have HI5 := Aside0.mk hI5; have HB5 := Aside0.mk hB5; have HK5 := Aside0.mk (HK4.out.trans hK5 (.inl rfl)); have HR5 := Aside0.mk ((hK5.2 w.heap.size (blk_lt HR4.out) ha' (by simp)).trans HR4.out); have v0 := (blk_cell HR5.out 0).trans (show _ = some (.int .i64 0 : Value) from rfl); have v1 := (blk_cell HR5.out 1).trans (show _ = some (.int .i64 0 : Value) from rfl); have fv := blk_frozen HR5.out; clear hI5 hB5 hK5))
       (repeat (go_step3; (try go_wp2)))
       refine bodyPost_ret (results_cell_row rfl _ _ w.heap.size 24 (#[.int .i64 0, .int .i64 0]) (0, 0) _ rfl (blk_put (cs' := #[.int .i64 0, .int .i64 0]) (blk_put (cs' := #[.int .i64 0, .int .i64 0]) HR5.out 0 (.int .i64 0) rfl) 1 (.int .i64 0) rfl) hu24_ rfl (by kernel_rfl)) rfl ?_
       obtain ⟨A5, c5, G5, hg5, hC5⟩ := HI5.out
       exact ⟨rfl, ⟨A5, c5, (blk_far (p := ⟨w.heap.size, 1, none⟩) (blk_far (p := ⟨w.heap.size, 0, none⟩) G5 ha _) ha _), hg5, hC5⟩, below_set (g := w.heap.size) (j := 1) (v := .int .i64 0) (below_set (g := w.heap.size) (j := 0) (v := .int .i64 0) HB5.out hrb) hrb, keep_far (p := ⟨w.heap.size, 1, none⟩) (keep_far (p := ⟨w.heap.size, 0, none⟩) HK5.out (Nat.le_refl _) _) (Nat.le_refl _) _⟩
      ·rw [if_neg hC] at H'
       obtain ⟨⟨p0, p1, p2, p3⟩, hf, H'⟩ := Option.bind_eq_some_iff.mp H'
       obtain ⟨q1, q2, q3, q4, q5⟩ : K = r1 ∧ wrap64 p0 = r2 ∧ p1 = r3 ∧ p2 = r4 ∧ p3 = r5 := by simpa using H'
       subst q1 q2 q3 q4 q5
       have HF := Aside0.mk hf
       clear H' hf
       by_cases hD : (rd_T39 s0_0 (wrap64 (s0_1 + 1))).f0 = 2
       ·have m1 : ((rd_T39 s0_0 (wrap64 (s0_1 + 1))).f0 == 2) = true := beq_iff_eq.2 hD
        have m2 : decide (65535 < (rd_T39 s0_0 (wrap64 (s0_1 + 1))).f3) = false := decide_eq_false (fun e => hC ⟨hD, e⟩)
        clear hC hD
        go_wp2_with (first | (go_at_call 37; (with_reducible refine (fairleadref10_kind.calls k (rd_T39 s0_0 s0_1).f2 K _ HKD.out).mono ?_); rintro e w2 ⟨rfl, hb2⟩; have HG2 := Aside0.mk (blk_below HG1.out hb2); have HR2 := Aside0.mk (blk_below HR1.out hb2); have HN2 := Aside0.mk (blk_below HN1.out hb2); have HI2 : Aside0 (IsS60 w0 w2 g s0_0 s0_1 s0_2 s0_3) := ⟨⟨_, c0, HG2.out, HGE.out, HC.out⟩⟩; have HB2 := Aside0.mk (below_step HB1.out hb2); have HK2 := Aside0.mk (HK1.out.trans (KeepBut.of_below hb2 g none) (.inl rfl)); clear y0 y2; have y0 := (blk_cell HN2.out 0).trans (show _ = some (.int .i64 (rd_T39 s0_0 s0_1).f0 : Value) from rfl); have z1 := (blk_cell HG2.out 1).trans (show _ = some (.int .i64 s0_1 : Value) from rfl); have f1 := blk_frozen HG2.out 1; have v0 := (blk_cell HR2.out 0).trans (show _ = some (.int .i64 0 : Value) from rfl); have v1 := (blk_cell HR2.out 1).trans (show _ = some (.int .i64 0 : Value) from rfl); have fv := blk_frozen HR2.out; clear hb2))
        (repeat (go_step3; (try go_wp2)))
        have GP4 := Aside0.mk (blk_drew (blk_put (cs' := #[.slice (some ad) s0_0.length c0, .int .i64 (wrap64 (s0_1 + 1)), .int .i64 s0_2, .int .i64 s0_3]) HG2.out 1 (.int .i64 (wrap64 (s0_1 + 1))) rfl))
        have HR4 := Aside0.mk (blk_drew (blk_far (p := ⟨g, 1, none⟩) HR2.out ha' (.int .i64 (wrap64 (s0_1 + 1)))))
        have HB4 := Aside0.mk (below_drew1 (below_set (g := g) (j := 1) (v := .int .i64 (wrap64 (s0_1 + 1))) HB2.out HGE.out))
        have HK4 := Aside0.mk (keep_drew (HK2.out.set_ 1 (.int .i64 (wrap64 (s0_1 + 1)))))
        have HI4 : Aside0 (IsS60 w0 ((w2.setCell ⟨g, 1, none⟩ (.int .i64 (wrap64 (s0_1 + 1)))).drew) g s0_0 (wrap64 (s0_1 + 1)) s0_2 s0_3) := ⟨⟨_, c0, GP4.out, HGE.out, HC.out⟩⟩
        refine start_ (n := 26) (S := fun w' => w'.cell? ⟨g, 0, none⟩ = some (.slice (some ad) s0_0.length c0) ∧ w'.cell? ⟨g, 1, none⟩ = some (.int .i64 (wrap64 (s0_1 + 1))) ∧ w'.cell? (ad.add ((wrap64 (s0_1 + 1)).toNat * 4)) = some (.int .i64 (rd_T39 s0_0 (wrap64 (s0_1 + 1))).f0) ∧ w'.cell? ⟨(ad.add ((wrap64 (s0_1 + 1)).toNat * 4)).block, (ad.add ((wrap64 (s0_1 + 1)).toNat * 4)).off + 3, none⟩ = some (.int .u64 (rd_T39 s0_0 (wrap64 (s0_1 + 1))).f3)) (ds := []) #[false, false, false, false, false, false, false, false, false, false, false, false, false, false, false, false, false, false, false, false, false, false, false, false, false, false] (by kernel_rfl) rfl rfl ⟨((blk_cell GP4.out 0).trans rfl), ((blk_cell GP4.out 1).trans rfl), (pw_cell_below HB4.out u0), (pw_cell_below HB4.out u3)⟩ (fun hHeld => ?_)
        refine Mine.pS 0 (some 48) ?_; refine Mine.pS 1 (some 49) ?_; refine Mine.pS 2 (some 50) ?_; refine Mine.pS 4 (some 52) ?_; refine Mine.pS 5 (some 53) ?_; refine Mine.pS 6 (some 54) ?_; refine Mine.tS 3 (some 51) hHeld ?_; refine Mine.tS 7 (some 55) hHeld ?_; refine Mine.pS 8 (some 56) ?_; refine Mine.pS 9 (some 57) ?_; refine Mine.tS 10 (some 58) hHeld ?_; refine Mine.pS 11 (some 59) ?_; refine Mine.pS 12 (some 60) ?_; refine Mine.pS 13 (some 61) ?_; refine Mine.pS 14 (some 62) ?_; refine Mine.pS 15 (some 63) ?_; refine Mine.pS 17 (some 65) ?_; refine Mine.pS 18 (some 66) ?_; refine Mine.pS 19 (some 67) ?_; refine Mine.tS 16 (some 64) hHeld ?_; refine Mine.tS 20 (some 68) hHeld ?_; refine Mine.pS 21 (some 69) ?_; refine Mine.pS 22 (some 70) ?_; refine Mine.tS 23 (some 71) hHeld ?_; refine Mine.pS 24 (some 72) ?_; refine Mine.pS 25 (some 73) ?_
        refine done_ (by kernel_rfl) ?_
        generalize ((w2.setCell ⟨g, 1, none⟩ (.int .i64 (wrap64 (s0_1 + 1)))).drew) = W4 at GP4 HR4 HB4 HK4 HI4 ⊢
        clear y0 z1 f1 v0 v1 fv u0 u1 u2 u3
        go_wp2_with (first | (go_at_call 38; (with_reducible refine (fairleadref10_Place_number.calls g s0_0 (wrap64 (s0_1 + 1)) s0_2 s0_3 p0 p1 p2 p3 w0 _ HI4.out HB4.out HF.out).mono ?_); rintro e w5 ⟨rfl, hI5, hB5, hK5⟩; have HI5 := Aside0.mk hI5; have HB5 := Aside0.mk hB5; have HK5 := Aside0.mk (HK4.out.trans hK5 (.inl rfl)); have HR5 := Aside0.mk ((hK5.2 w.heap.size (blk_lt HR4.out) ha' (by simp)).trans HR4.out); have v0 := (blk_cell HR5.out 0).trans (show _ = some (.int .i64 0 : Value) from rfl); have v1 := (blk_cell HR5.out 1).trans (show _ = some (.int .i64 0 : Value) from rfl); have fv := blk_frozen HR5.out; clear hI5 hB5 hK5))
        (repeat (go_step3; (try go_wp2)))
        refine bodyPost_ret (results_cell_row rfl _ _ w.heap.size 24 (#[.int .i64 K, .int .i64 (wrap64 p0)]) (0, 0) _ rfl (blk_put (cs' := #[.int .i64 K, .int .i64 (wrap64 p0)]) (blk_put (cs' := #[.int .i64 K, .int .i64 0]) HR5.out 0 (.int .i64 K) rfl) 1 (.int .i64 (wrap64 p0)) rfl) hu24_ rfl (by kernel_rfl)) rfl ?_
        obtain ⟨A5, c5, G5, hg5, hC5⟩ := HI5.out
        exact ⟨rfl, ⟨A5, c5, (blk_far (p := ⟨w.heap.size, 1, none⟩) (blk_far (p := ⟨w.heap.size, 0, none⟩) G5 ha _) ha _), hg5, hC5⟩, below_set (g := w.heap.size) (j := 1) (v := .int .i64 (wrap64 p0)) (below_set (g := w.heap.size) (j := 0) (v := .int .i64 K) HB5.out hrb) hrb, keep_far (p := ⟨w.heap.size, 1, none⟩) (keep_far (p := ⟨w.heap.size, 0, none⟩) HK5.out (Nat.le_refl _) _) (Nat.le_refl _) _⟩
       ·have m1 : ((rd_T39 s0_0 (wrap64 (s0_1 + 1))).f0 == 2) = false := beq_eq_false_iff_ne.2 hD
        clear hC hD
        go_wp2_with (first | (go_at_call 37; (with_reducible refine (fairleadref10_kind.calls k (rd_T39 s0_0 s0_1).f2 K _ HKD.out).mono ?_); rintro e w2 ⟨rfl, hb2⟩; have HG2 := Aside0.mk (blk_below HG1.out hb2); have HR2 := Aside0.mk (blk_below HR1.out hb2); have HN2 := Aside0.mk (blk_below HN1.out hb2); have HI2 : Aside0 (IsS60 w0 w2 g s0_0 s0_1 s0_2 s0_3) := ⟨⟨_, c0, HG2.out, HGE.out, HC.out⟩⟩; have HB2 := Aside0.mk (below_step HB1.out hb2); have HK2 := Aside0.mk (HK1.out.trans (KeepBut.of_below hb2 g none) (.inl rfl)); clear y0 y2; have y0 := (blk_cell HN2.out 0).trans (show _ = some (.int .i64 (rd_T39 s0_0 s0_1).f0 : Value) from rfl); have z1 := (blk_cell HG2.out 1).trans (show _ = some (.int .i64 s0_1 : Value) from rfl); have f1 := blk_frozen HG2.out 1; have v0 := (blk_cell HR2.out 0).trans (show _ = some (.int .i64 0 : Value) from rfl); have v1 := (blk_cell HR2.out 1).trans (show _ = some (.int .i64 0 : Value) from rfl); have fv := blk_frozen HR2.out; clear hb2))
        (repeat (go_step3; (try go_wp2)))
        have GP4 := Aside0.mk (blk_drew (blk_put (cs' := #[.slice (some ad) s0_0.length c0, .int .i64 (wrap64 (s0_1 + 1)), .int .i64 s0_2, .int .i64 s0_3]) HG2.out 1 (.int .i64 (wrap64 (s0_1 + 1))) rfl))
        have HR4 := Aside0.mk (blk_drew (blk_far (p := ⟨g, 1, none⟩) HR2.out ha' (.int .i64 (wrap64 (s0_1 + 1)))))
        have HB4 := Aside0.mk (below_drew1 (below_set (g := g) (j := 1) (v := .int .i64 (wrap64 (s0_1 + 1))) HB2.out HGE.out))
        have HK4 := Aside0.mk (keep_drew (HK2.out.set_ 1 (.int .i64 (wrap64 (s0_1 + 1)))))
        have HI4 : Aside0 (IsS60 w0 ((w2.setCell ⟨g, 1, none⟩ (.int .i64 (wrap64 (s0_1 + 1)))).drew) g s0_0 (wrap64 (s0_1 + 1)) s0_2 s0_3) := ⟨⟨_, c0, GP4.out, HGE.out, HC.out⟩⟩
        refine start_ (n := 26) (S := fun w' => w'.cell? ⟨g, 0, none⟩ = some (.slice (some ad) s0_0.length c0) ∧ w'.cell? ⟨g, 1, none⟩ = some (.int .i64 (wrap64 (s0_1 + 1))) ∧ w'.cell? (ad.add ((wrap64 (s0_1 + 1)).toNat * 4)) = some (.int .i64 (rd_T39 s0_0 (wrap64 (s0_1 + 1))).f0) ∧ w'.cell? ⟨(ad.add ((wrap64 (s0_1 + 1)).toNat * 4)).block, (ad.add ((wrap64 (s0_1 + 1)).toNat * 4)).off + 3, none⟩ = some (.int .u64 (rd_T39 s0_0 (wrap64 (s0_1 + 1))).f3)) (ds := []) #[false, false, false, false, false, false, false, false, false, false, false, false, false, false, false, false, false, false, false, false, false, false, false, false, false, false] (by kernel_rfl) rfl rfl ⟨((blk_cell GP4.out 0).trans rfl), ((blk_cell GP4.out 1).trans rfl), (pw_cell_below HB4.out u0), (pw_cell_below HB4.out u3)⟩ (fun hHeld => ?_)
        refine Mine.pS 0 (some 48) ?_; refine Mine.pS 1 (some 49) ?_; refine Mine.pS 2 (some 50) ?_; refine Mine.pS 4 (some 52) ?_; refine Mine.pS 5 (some 53) ?_; refine Mine.pS 6 (some 54) ?_; refine Mine.tS 3 (some 51) hHeld ?_; refine Mine.tS 7 (some 55) hHeld ?_; refine Mine.pS 8 (some 56) ?_; refine Mine.pS 9 (some 57) ?_; refine Mine.tS 10 (some 58) hHeld ?_; refine Mine.pS 11 (some 59) ?_; refine Mine.pS 12 (some 60) ?_; refine Mine.pO 13 (some 61) ?_; refine Mine.pO 14 (some 62) ?_; refine Mine.pO 15 (some 63) ?_; refine Mine.pO 16 (some 64) ?_; refine Mine.pO 17 (some 65) ?_; refine Mine.pO 18 (some 66) ?_; refine Mine.pO 19 (some 67) ?_; refine Mine.pO 20 (some 68) ?_; refine Mine.pO 21 (some 69) ?_; refine Mine.pO 22 (some 70) ?_; refine Mine.pO 23 (some 71) ?_; refine Mine.pO 24 (some 72) ?_; refine Mine.pS 25 (some 73) ?_
        refine done_ (by kernel_rfl) ?_
        generalize ((w2.setCell ⟨g, 1, none⟩ (.int .i64 (wrap64 (s0_1 + 1)))).drew) = W4 at GP4 HR4 HB4 HK4 HI4 ⊢
        clear y0 z1 f1 v0 v1 fv u0 u1 u2 u3
        go_wp2_with (first | (go_at_call 38; (with_reducible refine (fairleadref10_Place_number.calls g s0_0 (wrap64 (s0_1 + 1)) s0_2 s0_3 p0 p1 p2 p3 w0 _ HI4.out HB4.out HF.out).mono ?_); rintro e w5 ⟨rfl, hI5, hB5, hK5⟩; have HI5 := Aside0.mk hI5; have HB5 := Aside0.mk hB5; have HK5 := Aside0.mk (HK4.out.trans hK5 (.inl rfl)); have HR5 := Aside0.mk ((hK5.2 w.heap.size (blk_lt HR4.out) ha' (by simp)).trans HR4.out); have v0 := (blk_cell HR5.out 0).trans (show _ = some (.int .i64 0 : Value) from rfl); have v1 := (blk_cell HR5.out 1).trans (show _ = some (.int .i64 0 : Value) from rfl); have fv := blk_frozen HR5.out; clear hI5 hB5 hK5))
        (repeat (go_step3; (try go_wp2)))
        refine bodyPost_ret (results_cell_row rfl _ _ w.heap.size 24 (#[.int .i64 K, .int .i64 (wrap64 p0)]) (0, 0) _ rfl (blk_put (cs' := #[.int .i64 K, .int .i64 (wrap64 p0)]) (blk_put (cs' := #[.int .i64 K, .int .i64 0]) HR5.out 0 (.int .i64 K) rfl) 1 (.int .i64 (wrap64 p0)) rfl) hu24_ rfl (by kernel_rfl)) rfl ?_
        obtain ⟨A5, c5, G5, hg5, hC5⟩ := HI5.out
        exact ⟨rfl, ⟨A5, c5, (blk_far (p := ⟨w.heap.size, 1, none⟩) (blk_far (p := ⟨w.heap.size, 0, none⟩) G5 ha _) ha _), hg5, hC5⟩, below_set (g := w.heap.size) (j := 1) (v := .int .i64 (wrap64 p0)) (below_set (g := w.heap.size) (j := 0) (v := .int .i64 K) HB5.out hrb) hrb, keep_far (p := ⟨w.heap.size, 1, none⟩) (keep_far (p := ⟨w.heap.size, 0, none⟩) HK5.out (Nat.le_refl _) _) (Nat.le_refl _) _⟩
    ·rw [if_neg hn1] at H'; cases H'
 ·rw [if_neg hn] at h; cases h
end Go.Proofs.Ytfahchgglapglaa.M
