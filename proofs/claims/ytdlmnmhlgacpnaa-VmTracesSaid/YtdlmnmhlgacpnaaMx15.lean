-- Laid by a program (wip/tools/myprint.py) out of the loaded program's own print: for each Go function a Lean function and the proof of its contract.
import Derived.Test.YtdlmnmhlgacpnaaMx0
import Derived.Test.YtdlmnmhlgacpnaaMx3
import Derived.Test.YtdlmnmhlgacpnaaMx4
namespace Go.Proofs.Ytdlmnmhlgacpnaa.M
open Go.RowKit Go.Proofs.YtdlmnmhlgacpnaaW.PrintWords Go.Proofs.YtdlmnmhlgacpnaaW.PrintLast Go.Proofs.YtdlmnmhlgacpnaaW.PrintMore
attribute [local go_sem] max2_int min2_int max_two min_two max_three min_three max_four min_four   -- for this text's walks alone
set_option linter.unusedVariables false
set_option linter.unusedSimpArgs false

/-! ### vm_Trace: function 12 -/
-- HAND rounds=True making=True
set_option maxHeartbeats 8000000 in
set_option maxRecDepth 100000 in
theorem vm_Trace_seen.calls (sb base : Nat) (ok : Nat → Prop) (a : Int) (v : Value) (L : List Int) (w : World) (hs : w.heap[sb]? = some (.cells #[v] 40 (0, 0))) (hR : Kd.R (Kd.int .i64) 3 w base ok v L) (hok : ∀ k, ok k → k ≠ sb) (hfresh : ∀ k, w.heap.size ≤ k → ok k) (hbase : base ≤ w.heap.size) (hsb : base ≤ sb) (hl : (L.length + 1) * 8 ≤ 140737488355328) :
    Calls Try.prog 21 #[.int .i64 a, .pointer (some ⟨sb, 0, none⟩)] w fun e w' => e = .returned (.tuple #[]) ∧ (∃ v', w'.heap[sb]? = some (.cells #[v'] 40 (0, 0)) ∧ Kd.R (Kd.int .i64) 3 w' base ok v' (L ++ [a])) ∧ Below base w w' ∧ ∀ k, k < w.heap.size → k ≠ sb → ¬ ok k → w'.heap[k]? = w.heap[k]? := by
  have HS := Aside0.mk hs
  have HR := Aside0.mk hR
  have c0 : w.cell? ⟨sb, 0, none⟩ = some v := (blk_cell hs 0).trans rfl
  have hn0 := World.new_ne w _ c0
  have HO := Aside0.mk hok
  have HF := Aside0.mk hfresh
  have Hb := Aside0.mk hbase
  have Hs := Aside0.mk hsb
  have Hl := Aside0.mk hl
  clear hs hR hok hfresh hbase hsb hl
  go_enter Try.func21, Try.ntmps21
  go_wp2_with (first | (at_builtin; refine Kd.R_append (Kd.int .i64) (w0 := w) base rfl (.tmp 3) (.tmp 5) 40 3 (.int .i64 0) 8 rfl Try.underlying40 info3 rfl (by decide) (by omega) v L a [.int .i64 a] ok (fun _ => False) (by rfl) (by first | (go_simp; done) | (go_simp; rfl)) ?aP (fun _ hk => hk.elim) HF.out HR.out (Below.refl _ _) Hb.out Hl.out ?_; (case aP => exact rfl); intro v1 w1 ho hb hg hat; obtain ⟨A1, cap1, ev1⟩ := Kd.R_slice ho; subst ev1; have e0 : w1.heap[sb]? = some (.cells #[v] 40 (0, 0)) := blk_grown HS.out hg (fun e => HO.out sb (HR.out.1 sb e.symm) rfl); have c1 : w1.cell? ⟨sb, 0, none⟩ = some v := (blk_cell e0 0).trans rfl; have f1 := blk_frozen e0 0; have HE := Aside0.mk e0; have HO1 := Aside0.mk ho; have HB1 := Aside0.mk hb; have HG1 := Aside0.mk hg; clear e0 ho hb hg hat))
  go_end0
  refine ⟨rfl, ⟨_, blk_put HE.out 0 _ rfl, Kd.R_far (by have h_ := HO1.out; rw [show (L ++ [a]).length = L.length + 1 from by simp] at h_; exact h_) (fun k hk => HO.out k hk) _⟩, HB1.out.setCell Hs.out _, fun k hk h1 h2 => ?_⟩
  rw [Below.heap_setCell _ _ _ _ h1]
  exact HG1.out.block k hk (fun e => h2 (HR.out.1 k e.symm))
set_option maxHeartbeats 8000000 in
set_option maxRecDepth 100000 in
theorem vm_play.trace (k : Nat) (A0 : Option Addr) (c0 : Nat) (l : List S37) (d0 d1 d2 d3 d4 d5 d6 d7 d8 : Int) (ans : Int) (LL : List Int) (er : Int) (w0 w : World) (sb : Nat) (hr : Kd.C k37 w0 A0 l.length l) (hc : l.length ≤ c0) (hB : Below w0.heap.size w0 w) (hs : w.heap[sb]? = some (.cells #[.slice none 0 0] 40 (0, 0))) (hsB : w0.heap.size ≤ sb) (H : vm_play.f k l d0 d1 d2 d3 d4 d5 d6 d7 d8 = some (ans, LL, er)) :
    Calls Try.prog 17 #[.slice A0 l.length c0, .agg #[.int .u32 d0, .int .u32 d1, .int .u64 d2, .int .u64 d3, .int .u64 d4, .int .u64 d5, .int .u64 d6, .int .u64 d7, .int .u64 d8], .func (.func 21) #[] #[.pointer (some ⟨sb, 0, none⟩)]] w fun e w' => e = .returned (.tuple #[.int .u32 ans, .int .i64 er]) ∧ (∃ v_ : Value, w'.heap[sb]? = some (.cells #[v_] 40 (0, 0)) ∧ Kd.R (Kd.int .i64) 3 w' w0.heap.size (fun k => k ≠ sb) v_ LL) ∧ Below w0.heap.size w0 w' := by
  have hR := Aside0.mk hr
  have hC := Aside0.mk hc
  have HB := Aside0.mk hB
  have HS := Aside0.mk hs
  have HSB := Aside0.mk hsB
  have hmm := @run_makeMap Try.prog
  have hwB := Aside0.mk hB.size
  obtain ⟨⟨t1, t2⟩, hch, H⟩ := Option.bind_eq_some_iff.mp H
  have A1 := Aside0.mk hch
  clear hr hc hB hs hsB hch
  by_cases ht : t1 = 0
  · subst ht
    rw [if_pos rfl] at H
    obtain ⟨⟨q1, q2⟩, hq, H⟩ := Option.bind_eq_some_iff.mp H
    simp only [Option.some.injEq, Prod.mk.injEq] at H
    obtain ⟨rfl, rfl, rfl⟩ := H
    have H' := Aside0.mk hq
    clear hq
    go_enter Try.func17, Try.ntmps17
    go_wp2_with (first | (go_at_call 15; (refine (check_Check.calls k A0 c0 l 0 t2 _ (Kd.C_below hR.out (HB.out.alloc hwB.out _)) hC.out A1.out).mono ?_); rintro e w1 ⟨rfl, hB1⟩; have hd1 := Aside0.mk (blk_below (blk_new w (.cells #[.int .u32 d0, .int .u32 d1, .int .u64 d2, .int .u64 d3, .int .u64 d4, .int .u64 d5, .int .u64 d6, .int .u64 d7, .int .u64 d8] 27 (0, 0))) hB1); have HBs := Aside0.mk (blk_below (blk_alloc HS.out (.cells #[.int .u32 d0, .int .u32 d1, .int .u64 d2, .int .u64 d3, .int .u64 d4, .int .u64 d5, .int .u64 d6, .int .u64 d7, .int .u64 d8] 27 (0, 0))) hB1); have hw1 := Aside0.mk (Nat.le_trans (show w.heap.size + 1 ≤ (w.alloc (.cells #[.int .u32 d0, .int .u32 d1, .int .u64 d2, .int .u64 d3, .int .u64 d4, .int .u64 d5, .int .u64 d6, .int .u64 d7, .int .u64 d8] 27 (0, 0))).heap.size by simp) hB1.size); have HB1 := Aside0.mk ((HB.out.alloc hwB.out (.cells #[.int .u32 d0, .int .u32 d1, .int .u64 d2, .int .u64 d3, .int .u64 d4, .int .u64 d5, .int .u64 d6, .int .u64 d7, .int .u64 d8] 27 (0, 0))).trans (hB1.mono (Nat.le_trans hwB.out (by simp)))); clear hB1))
    have hsw := Aside0.mk (blk_lt HS.out)
    go_loopg [11] k (fun kq v11 w' => ∃ (i : Int) (s : VmS) (L : List Int), v11 = .int .i64 i ∧ Aside0 (vm_play.l0 kq l d0 d1 d2 d3 d4 d5 d6 d7 d8 i s L = some (q1, q2)) ∧ Aside0 (Mine.IsM Try.prog 64 23 w0.heap.size w' (w1.heap.size + 1) w1.heap.size L.length s.a s.x s.o s.r s.C) ∧ Aside0 (w'.heap[w.heap.size]? = some (.cells #[.int .u32 d0, .int .u32 d1, .int .u64 d2, .int .u64 d3, .int .u64 d4, .int .u64 d5, .int .u64 d6, .int .u64 d7, .int .u64 d8] 27 (0, 0))) ∧ Aside0 (∃ v_ : Value, w'.heap[sb]? = some (.cells #[v_] 40 (0, 0)) ∧ Kd.R (Kd.int .i64) 3 w' w0.heap.size (fun k => k ≠ sb ∧ k ≠ w.heap.size ∧ k ≠ (w1.heap.size + 1) ∧ k ≠ w1.heap.size) v_ L) ∧ Aside0 (Below w0.heap.size w0 w') ∧ Aside0 (w1.heap.size ≤ w'.heap.size))
    case atStart => exact ⟨0, ⟨0, 0, false, 0, fun _ => 0⟩, [], rfl, H', ⟨Mine.made Try.prog 64 23 w1 HB1.out.size⟩, ⟨blk_alloc (blk_alloc hd1.out _) _⟩, ⟨⟨_, blk_alloc (blk_alloc HBs.out _) _, Kd.R_nil _ _ _ _ _⟩⟩, ⟨Mine.below2 HB1.out HB1.out.size _ _⟩, ⟨by simp; omega⟩⟩
    case round =>
      clear H' HBs
      obtain ⟨i, s, L, rfl, HA, hM, hD, hS, hBr, hsz⟩ := hrel
      cases gk with
      | zero => exact absurd HA.out (by simp [vm_play.l0])
      | succ k1 =>
        have H := HA.out
        clear HA
        simp only [vm_play.l0] at H
        by_cases ho : s.o = true
        · rw [if_pos ho] at H
          simp only [Option.some.injEq, Prod.mk.injEq] at H
          obtain ⟨rfl, rfl⟩ := H
          have c3 := hM.out.c3
          rw [ho] at c3
          have c4 := hM.out.c4
          clear ho
          go_wp2
          go_ret2
          obtain ⟨v_, hSb, hRv⟩ := hS.out
          exact ⟨rfl, ⟨v_, hSb, Kd.R_mono hRv (fun k hk => hk.1)⟩, hBr.out⟩
        · rw [if_neg ho] at H
          by_cases hi : 0 ≤ i ∧ i < (l.length : Int) ∧ L.length < 1000000000
          · rw [if_pos hi] at H
            obtain ⟨⟨q, s2⟩, hst, H⟩ := Option.bind_eq_some_iff.mp H
            have A2 := Aside0.mk hst
            have H' := Aside0.mk H
            have hL := Aside0.mk hi.2.2
            have i0 := hi.1
            have i1 := hi.2.1
            have c3 := hM.out.c3
            have ho2 : s.o = false := by simpa using ho
            rw [ho2] at c3
            clear H hst ho hi ho2
            obtain ⟨v_, hSb0, hRv0⟩ := hS.out
            have hSb := Aside0.mk hSb0
            have hRv := Aside0.mk hRv0
            have hML := Aside0.mk hM.out.lt
            have hMm := Aside0.mk hM.out.mlt
            clear hSb0 hRv0 hS
            obtain ⟨ad, e0, _⟩ := at_T37 (Kd.C_below hR.out hBr.out) i i0 i1
            cases e0
            go_wp2_with (first | (go_at_call 21; (refine (vm_Trace_seen.calls sb w0.heap.size (fun k => k ≠ sb ∧ k ≠ w.heap.size ∧ k ≠ (w1.heap.size + 1) ∧ k ≠ w1.heap.size) i v_ L _ hSb.out hRv.out (fun k hk => hk.1) (fun k hk => by have := hsw.out; have := hw1.out; have := hsz.out; have := hML.out; refine ⟨?_, ?_, ?_, ?_⟩ <;> omega) hBr.out.size HSB.out (by have := hL.out; omega)).mono ?_); rintro e w2 ⟨rfl, ⟨v2, hS2, hR2⟩, hbl2, hT2⟩; have hB2 := hBr.out.trans hbl2; obtain ⟨ad2, e2, x0, x1, x2, x3⟩ := at_T37 (Kd.C_below hR.out hB2) i i0 i1; cases e2; have hD2 := (hT2 w.heap.size (blk_lt hD.out) (Nat.ne_of_gt hsw.out) (fun h_ => h_.2.1 rfl)).trans hD.out; have hM2 := Aside0.mk (hM.out.same (hT2 _ hML.out (by have := hsw.out; have := hw1.out; omega) (fun h_ => h_.2.2.1 rfl)) (hT2 _ hMm.out (by have := hsw.out; have := hw1.out; omega) (fun h_ => h_.2.2.2 rfl))); have hD3 := Aside0.mk hD2; have hS3 := Aside0.mk hS2; have hR3 := Aside0.mk hR2; have hB3 := Aside0.mk hB2; have hz3 := Aside0.mk hbl2.size; clear hD2 hS2 hR2 hB2 hbl2 hT2))
            go_region_held3 (fun w' => w'.cell? (ad.add (i.toNat * 4)) = some (.int .u16 (rd_T37 l i).f0) ∧ w'.cell? ⟨(ad.add (i.toNat * 4)).block, (ad.add (i.toNat * 4)).off + 1, none⟩ = some (.int .u8 (rd_T37 l i).f1) ∧ w'.cell? ⟨(ad.add (i.toNat * 4)).block, (ad.add (i.toNat * 4)).off + 2, none⟩ = some (.int .u8 (rd_T37 l i).f2) ∧ w'.cell? ⟨(ad.add (i.toNat * 4)).block, (ad.add (i.toNat * 4)).off + 3, none⟩ = some (.int .u32 (rd_T37 l i).f3) ∧ w'.cell? ⟨w.heap.size, 0, none⟩ = some (.int .u32 d0) ∧ w'.cell? ⟨w.heap.size, 1, none⟩ = some (.int .u32 d1) ∧ w'.cell? ⟨w.heap.size, 2, none⟩ = some (.int .u64 d2) ∧ w'.cell? ⟨w.heap.size, 3, none⟩ = some (.int .u64 d3) ∧ w'.cell? ⟨w.heap.size, 4, none⟩ = some (.int .u64 d4) ∧ w'.cell? ⟨w.heap.size, 5, none⟩ = some (.int .u64 d5) ∧ w'.cell? ⟨w.heap.size, 6, none⟩ = some (.int .u64 d6) ∧ w'.cell? ⟨w.heap.size, 7, none⟩ = some (.int .u64 d7) ∧ w'.cell? ⟨w.heap.size, 8, none⟩ = some (.int .u64 d8)) (first | exact ⟨x0, x1, x2, x3, (blk_cell hD3.out 0).trans rfl, (blk_cell hD3.out 1).trans rfl, (blk_cell hD3.out 2).trans rfl, (blk_cell hD3.out 3).trans rfl, (blk_cell hD3.out 4).trans rfl, (blk_cell hD3.out 5).trans rfl, (blk_cell hD3.out 6).trans rfl, (blk_cell hD3.out 7).trans rfl, (blk_cell hD3.out 8).trans rfl⟩ | exact ⟨z0, z1, z2, z3, (blk_cell hD4.out 0).trans rfl, (blk_cell hD4.out 1).trans rfl, (blk_cell hD4.out 2).trans rfl, (blk_cell hD4.out 3).trans rfl, (blk_cell hD4.out 4).trans rfl, (blk_cell hD4.out 5).trans rfl, (blk_cell hD4.out 6).trans rfl, (blk_cell hD4.out 7).trans rfl, (blk_cell hD4.out 8).trans rfl⟩)
              ((go_at_call 25; (refine (vm_machine_step.calls k1 w0.heap.size (w1.heap.size + 1) w1.heap.size L.length s (rd_T37 l i).f0 (rd_T37 l i).f1 (rd_T37 l i).f2 (rd_T37 l i).f3 d0 d1 d2 d3 d4 d5 d6 d7 d8 q s2 _ (by have := hL.out; unfold maxLen; omega) hM2.out.drew A2.out).mono ?_); rintro e w3 ⟨rfl, hM3, hT4⟩; have hB4 := hB3.out.drew.trans (hT4.below hB3.out.size (Nat.le_trans HB1.out.size (Nat.le_succ _)) HB1.out.size); obtain ⟨ad3, e3, z0, z1, z2, z3⟩ := at_T37 (Kd.C_below hR.out hB4) i i0 i1; cases e3; have hD4 := Aside0.mk (hT4.blk hD3.out (by have := hw1.out; omega) (by have := hw1.out; omega)); have hB5 := Aside0.mk hB4; have hT5 := Aside0.mk hT4; have hM5 := Aside0.mk hM3; clear hB4 hT4 hM3))
            go_wp2
            go_roundg k1
            case measure => omega
            case rel =>
              refine ⟨wrap64 (wrap64 (i + q) + 1), s2, L ++ [i], by first | rfl | (simp only [i64_w]), H', ⟨by rw [List.length_append]; exact hM5.out⟩, hD4, ⟨⟨v2, ?_, ?_⟩⟩, hB5, ⟨?_⟩⟩
              · exact hT5.out.blk hS3.out (by have := hsw.out; have := hw1.out; omega) (by have := hsw.out; have := hw1.out; omega)
              · exact Kd.R_step (Kd.R_drew hR3.out) (fun k ho hlt => hT5.out.block k hlt ho.2.2.1 ho.2.2.2)
              · exact Nat.le_trans hsz.out (Nat.le_trans hz3.out hT5.out.size)
          · rw [if_neg hi] at H
            cases H
  · rw [if_neg ht] at H
    simp only [Option.some.injEq, Prod.mk.injEq] at H
    obtain ⟨rfl, rfl, rfl⟩ := H
    have ht1 : (t1 != 0) = true := bne_iff_ne.2 ht
    go_enter Try.func17, Try.ntmps17
    go_wp2_with (first | (go_at_call 15; (refine (check_Check.calls k A0 c0 l t1 t2 _ (Kd.C_below hR.out (HB.out.alloc hwB.out _)) hC.out A1.out).mono ?_); rintro e w1 ⟨rfl, hB1⟩; have HBs := Aside0.mk (blk_below (blk_alloc HS.out (.cells #[.int .u32 d0, .int .u32 d1, .int .u64 d2, .int .u64 d3, .int .u64 d4, .int .u64 d5, .int .u64 d6, .int .u64 d7, .int .u64 d8] 27 (0, 0))) hB1); have HB1 := Aside0.mk ((HB.out.alloc hwB.out (.cells #[.int .u32 d0, .int .u32 d1, .int .u64 d2, .int .u64 d3, .int .u64 d4, .int .u64 d5, .int .u64 d6, .int .u64 d7, .int .u64 d8] 27 (0, 0))).trans (hB1.mono (Nat.le_trans hwB.out (by simp)))); clear hB1))
    go_ret2
    exact ⟨rfl, ⟨_, HBs.out, Kd.R_nil _ _ _ _ _⟩, HB1.out⟩
def vm_Trace.f (k : Nat) (l : List S37) (d0 d1 d2 d3 d4 d5 d6 d7 d8 : Int) : Option (List Int × Int) := (vm_play.f k l d0 d1 d2 d3 d4 d5 d6 d7 d8).bind fun t => some (t.2.1, t.2.2)
theorem vm_Trace.mono : ∀ (l : List S37) (d0 d1 d2 d3 d4 d5 d6 d7 d8 : Int) (k : Nat), LeO (vm_Trace.f k l d0 d1 d2 d3 d4 d5 d6 d7 d8) (vm_Trace.f (k + 1) l d0 d1 d2 d3 d4 d5 d6 d7 d8) := by
  intro l d0 d1 d2 d3 d4 d5 d6 d7 d8 k
  unfold vm_Trace.f
  exact LeO.bind (vm_play.mono _ _ _ _ _ _ _ _ _ _ _) (fun _ => LeO.refl _)
set_option maxHeartbeats 8000000 in
set_option maxRecDepth 100000 in
theorem vm_Trace.calls (k : Nat) (A0 : Option Addr) (c0 : Nat) (l0 : List S37) (d0 d1 d2 d3 d4 d5 d6 d7 d8 : Int) (r1 : List Int) (r2 : Int) (w : World) (hr0 : Kd.C k37 w A0 l0.length l0) (hc0 : l0.length ≤ c0) (h : vm_Trace.f k l0 d0 d1 d2 d3 d4 d5 d6 d7 d8 = some (r1, r2)) :
    Calls Try.prog 12 #[.slice A0 l0.length c0, .agg #[.int .u32 d0, .int .u32 d1, .int .u64 d2, .int .u64 d3, .int .u64 d4, .int .u64 d5, .int .u64 d6, .int .u64 d7, .int .u64 d8]] w fun e w' => ∃ v0_ : Value, e = .returned (.tuple #[v0_, .int .i64 r2]) ∧ Kd.R (Kd.int .i64) 3 w' w.heap.size (fun _ => True) v0_ r1 ∧ Below w.heap.size w w' := by
  obtain ⟨⟨q1, q2, q3⟩, hp, h⟩ := Option.bind_eq_some_iff.mp h
  simp only [Option.some.injEq, Prod.mk.injEq] at h
  obtain ⟨rfl, rfl⟩ := h
  have hR := Aside0.mk hr0
  have hC := Aside0.mk hc0
  have hP := Aside0.mk hp
  clear hr0 hc0 hp
  have hmf : ∀ (fn : Fn) (first cap : Array Value) (w : World), (Instr.makeFunc fn first cap).run Try.prog w = .ok (.func fn first cap) w := fun _ _ _ _ => rfl
  go_enter Try.func12, Try.ntmps12
  go_wp2_with (first | (go_at_call 17; (refine (vm_play.trace k A0 c0 l0 d0 d1 d2 d3 d4 d5 d6 d7 d8 q1 q2 q3 w _ (w.heap.size + 1) hR.out hC.out (Mine.below2 (Below.refl _ _) (Nat.le_refl _) _ _) (by simpa using blk_new (w.alloc _) _) (Nat.le_succ _) hP.out).mono ?_); rintro e w1 ⟨rfl, ⟨v1, hs1, hR1⟩, hB1⟩; have c1 : w1.cell? ⟨w.heap.size + 1, 0, none⟩ = some v1 := (blk_cell hs1 0).trans rfl; have hR2 := Aside0.mk hR1; have hB2 := Aside0.mk hB1; clear hR1 hB1 hs1))
  go_ret2
  exact ⟨_, rfl, Kd.R_mono hR2.out (fun _ _ => trivial), hB2.out⟩

end Go.Proofs.Ytdlmnmhlgacpnaa.M
