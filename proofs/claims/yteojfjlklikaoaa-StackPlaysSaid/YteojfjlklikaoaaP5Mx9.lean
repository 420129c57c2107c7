-- Laid by a program (wip/tools/myprint.py) out of the loaded program's own print: for each Go function a Lean function and the proof of its contract.
import Derived.Test.YteojfjlklikaoaaP5Mx0
import Derived.Test.YteojfjlklikaoaaP5Mx3
import Derived.Test.YteojfjlklikaoaaP5Mx7
import Derived.Test.YteojfjlklikaoaaP5Mx8
namespace Go.Proofs.Yteojfjlklikaoaa.M
open Go.RowKit Go.Proofs.YteojfjlklikaoaaW.PrintWords Go.Proofs.YteojfjlklikaoaaW.PrintLast Go.Proofs.YteojfjlklikaoaaW.PrintMore
attribute [local go_sem] max2_int min2_int max_two min_two max_three min_three max_four min_four   -- for this text's walks alone
set_option linter.unusedVariables false
set_option linter.unusedSimpArgs false
def fairleadref05_Check.l0 : Nat → List (S53) → Int → Option (Int × Int)
  | 0, _, _ => none
  | k + 1, x0, x4 => if x4 < (x0.length : Int) then ((fairleadref05_wrong.f k x0 x4).bind fun t177 => (if t177 = 0 then (fairleadref05_Check.l0 k x0 (wrap64 (x4 + 1))) else (some (t177, x4)))) else (some (0, (-1)))
def fairleadref05_Check.f (k : Nat) (l0 : List (S53)) : Option (Int × Int) := if (l0.length : Int) = 0 then (some (10, 0)) else (if (l0.length : Int) > 4096 then (some (4, 4096)) else (fairleadref05_Check.l0 k l0 0))
set_option maxHeartbeats 8000000 in
set_option maxRecDepth 100000 in
theorem fairleadref05_Check.calls (k : Nat) (A0 : Option Addr) (c0 : Nat) (l0 : List (S53)) (r1 : Int) (r2 : Int) (w : World) (hr0 : Kd.C k53 w A0 l0.length l0) (hc0 : l0.length ≤ c0) (h : fairleadref05_Check.f k l0 = some (r1, r2)) :
    Calls Try.prog 23 #[.slice A0 l0.length c0] w fun e w' => e = .returned (.tuple #[.int .i64 r1, .int .i64 r2]) ∧ Below w.heap.size w w' := by
  have HR0 := Aside0.mk hr0
  have HC0 := Aside0.mk hc0
  clear hr0 hc0
  have HB := Aside0.mk (Below.refl w.heap.size w)
  have H : (if (l0.length : Int) = 0 then (some (10, 0)) else (if (l0.length : Int) > 4096 then (some (4, 4096)) else (fairleadref05_Check.l0 k l0 0))) = some (r1, r2) := h
  clear h
  by_cases c2 : (l0.length : Int) = 0
  · rw [if_pos c2] at H
    have c2b0 : ((l0.length : Int) == 0) = true := beq_iff_eq.mpr c2
    have c2b1 : ((l0.length : Int) != 0) = false := bne_eq_false_iff_eq.mpr c2
    clear c2
    simp only [Option.some.injEq, Prod.mk.injEq] at H
    obtain ⟨rfl, rfl⟩ := H
    go_enter Try.func23, Try.ntmps23
    go_wp2
    go_ret2
    exact ⟨by first | rfl | (simp [errW_none, errW_some] <;> rfl) | (simp [*, errW_none, errW_some] <;> rfl), by repeat (first | (with_reducible first | exact HB.out | apply below_alloc | apply pw_below_drewN | apply below_drew1) | exact HB.out)⟩
  · rw [if_neg c2] at H
    have c2b0 : ((l0.length : Int) == 0) = false := beq_eq_false_iff_ne.mpr c2
    have c2b1 : ((l0.length : Int) != 0) = true := bne_iff_ne.mpr c2
    have c2b2 : ¬ (l0 = []) := fun h_ => c2 (by rw [h_]; rfl)
    by_cases c3 : (l0.length : Int) > 4096
    · rw [if_pos c3] at H
      have c3b0 : decide (4096 < (l0.length : Int)) = true := decide_eq_true c3
      have c3b1 : decide (4096 < l0.length) = true := decide_eq_true (by omega)
      clear c3
      simp only [Option.some.injEq, Prod.mk.injEq] at H
      obtain ⟨rfl, rfl⟩ := H
      go_enter Try.func23, Try.ntmps23
      go_wp2
      go_ret2
      exact ⟨by first | rfl | (simp [errW_none, errW_some] <;> rfl) | (simp [*, errW_none, errW_some] <;> rfl), by repeat (first | (with_reducible first | exact HB.out | apply below_alloc | apply pw_below_drewN | apply below_drew1) | exact HB.out)⟩
    · rw [if_neg c3] at H
      have c3b0 : decide (4096 < (l0.length : Int)) = false := decide_eq_false c3
      have c3b1 : decide (4096 < l0.length) = false := decide_eq_false (by omega)
      clear c3
      have H' := Aside0.mk H
      clear H
      go_enter Try.func23, Try.ntmps23
      go_wp2
      go_loopg [4] k (fun kq v4 w' => ∃ (x4_1 : Int), v4 = .int .i64 x4_1 ∧ Aside0 (fairleadref05_Check.l0 kq l0 x4_1 = some (r1, r2)) ∧ Aside0 (kq ≤ k) ∧ Aside0 (Below w.heap.size w w'))
      case atStart => exact ⟨(0), (by first | rfl | (simp; done) | (simp [*]; done)), H', ⟨Nat.le_refl _⟩, ⟨by repeat (first | (with_reducible first | exact HB.out | apply below_alloc | apply pw_below_drewN | apply below_drew1) | exact HB.out)⟩⟩
      case round =>
        clear H'
        try clear c2
        try clear c2b0
        try clear c2b1
        try clear c2b2
        try clear p2
        try clear c3
        try clear c3b0
        try clear c3b1
        obtain ⟨x4_1, rfl, HA, HK1, HB⟩ := hrel
        cases gk with
        | zero => exact absurd HA.out (by simp [fairleadref05_Check.l0])
        | succ k1 =>
          have H := HA.out
          clear HA
          simp only [fairleadref05_Check.l0] at H
          by_cases c4 : x4_1 < (l0.length : Int)
          · rw [if_pos c4] at H
            have c4b0 : decide (x4_1 < (l0.length : Int)) = true := decide_eq_true c4
            clear c4
            replace H := Option.bind_eq_some_iff.mp H
            obtain ⟨t177, A50, H⟩ := H
            replace H : (if t177 = 0 then (fairleadref05_Check.l0 k1 l0 (wrap64 (x4_1 + 1))) else (some (t177, x4_1))) = some (r1, r2) := H
            have A5 := Aside0.mk A50
            clear A50
            by_cases c6 : t177 = 0
            · rw [if_pos c6] at H
              have c6b0 : (t177 == 0) = true := beq_iff_eq.mpr c6
              have c6b1 : (t177 != 0) = false := bne_eq_false_iff_eq.mpr c6
              clear c6
              have H' := Aside0.mk H
              clear H
              go_wp2_with (first | ((with_reducible refine gate_callee (f := 34) rfl ?_); refine goesL_ (some 20) rfl rfl Try.func34 (by kernel_rfl) rfl #[.slice A0 l0.length c0, .int .i64 x4_1] rfl (by (try simp only [List.map_toArray, List.map_cons, List.map_nil]); first | done | rfl | (simp only [List.length_drop, List.length_take]; rfl)) ?_; (with_reducible refine (fairleadref05_wrong.calls k1 _ _ l0 x4_1 t177 _ ?side1 ?side2 A5.out).mono ?_); (case side1 => repeat (first | exact (Kd.C_below HR0.out HB.out) | (with_reducible refine Kd.C_alloc ?_ _) | (with_reducible refine Kd.C_drewN ?_ _) | (with_reducible refine Kd.C_drew ?_))); (case side2 => exact HC0.out); rintro e w7 ⟨rfl, hb⟩; refine ⟨_, rfl, ?_⟩; have n0_ := Aside0.mk (below_step (by repeat (first | (with_reducible first | exact HB.out | apply below_alloc | apply pw_below_drewN | apply below_drew1) | exact HB.out)) hb); clear HB; have HB := n0_; clear n0_; (try clear hb); (try clear hb2); (try clear hk); (try clear hi)))
              go_roundg k1
              case measure => have := HK1.out; omega
              case rel => exact ⟨(wrap64 (x4_1 + 1)), (by first | rfl | (simp; done) | (simp [*]; done)), H', ⟨by have := HK1.out; omega⟩, ⟨by repeat (first | (with_reducible first | exact HB.out | apply below_alloc | apply pw_below_drewN | apply below_drew1) | exact HB.out)⟩⟩
            · rw [if_neg c6] at H
              have c6b0 : (t177 == 0) = false := beq_eq_false_iff_ne.mpr c6
              have c6b1 : (t177 != 0) = true := bne_iff_ne.mpr c6
              simp only [Option.some.injEq, Prod.mk.injEq] at H
              obtain ⟨rfl, rfl⟩ := H
              go_wp2_with (first | ((with_reducible refine gate_callee (f := 34) rfl ?_); refine goesL_ (some 20) rfl rfl Try.func34 (by kernel_rfl) rfl #[.slice A0 l0.length c0, .int .i64 x4_1] rfl (by (try simp only [List.map_toArray, List.map_cons, List.map_nil]); first | done | rfl | (simp only [List.length_drop, List.length_take]; rfl)) ?_; (with_reducible refine (fairleadref05_wrong.calls k1 _ _ l0 x4_1 t177 _ ?side1 ?side2 A5.out).mono ?_); (case side1 => repeat (first | exact (Kd.C_below HR0.out HB.out) | (with_reducible refine Kd.C_alloc ?_ _) | (with_reducible refine Kd.C_drewN ?_ _) | (with_reducible refine Kd.C_drew ?_))); (case side2 => exact HC0.out); rintro e w8 ⟨rfl, hb⟩; refine ⟨_, rfl, ?_⟩; have n0_ := Aside0.mk (below_step (by repeat (first | (with_reducible first | exact HB.out | apply below_alloc | apply pw_below_drewN | apply below_drew1) | exact HB.out)) hb); clear HB; have HB := n0_; clear n0_; (try clear hb); (try clear hb2); (try clear hk); (try clear hi)))
              go_ret2
              exact ⟨by first | rfl | (simp [errW_none, errW_some] <;> rfl) | (simp [*, errW_none, errW_some] <;> rfl), by repeat (first | (with_reducible first | exact HB.out | apply below_alloc | apply pw_below_drewN | apply below_drew1) | exact HB.out)⟩
          · rw [if_neg c4] at H
            have c4b0 : decide (x4_1 < (l0.length : Int)) = false := decide_eq_false c4
            clear c4
            simp only [Option.some.injEq, Prod.mk.injEq] at H
            obtain ⟨rfl, rfl⟩ := H
            go_wp2
            go_ret2
            exact ⟨by first | rfl | (simp [errW_none, errW_some] <;> rfl) | (simp [*, errW_none, errW_some] <;> rfl), by repeat (first | (with_reducible first | exact HB.out | apply below_alloc | apply pw_below_drewN | apply below_drew1) | exact HB.out)⟩
-- HAND rounds=True making=True
set_option maxHeartbeats 8000000 in
set_option maxRecDepth 100000 in
theorem ref15_Attach_err (k : Nat) (A0 : Option Addr) (c0 : Nat) (l : List S53) (g : Nat) (L : List (List S53)) (e0 p0 : Int) (w : World) (hr : Kd.C k53 w A0 l.length l) (hc : l.length ≤ c0) (hck : fairleadref05_Check.f k l = some (e0, p0)) (he : e0 ≠ 0) :
    Calls Try.prog 11 #[.pointer (some ⟨g, 0, none⟩), .slice A0 l.length c0] w fun e w' => e = .returned (.int .i64 e0) ∧ Below w.heap.size w w' := by
  have HR := Aside0.mk hr
  have HC := Aside0.mk hc
  have HK := Aside0.mk hck
  have q1 : (e0 == 0) = false := beq_eq_false_iff_ne.2 he
  have q2 : (e0 != 0) = true := bne_iff_ne.2 he
  clear hr hc hck he
  go_enter Try.func11, Try.ntmps11
  go_wp2_with (first | (go_at_call 23; (refine (fairleadref05_Check.calls k _ _ l e0 p0 _ HR.out HC.out HK.out).mono ?_); rintro e w1 ⟨rfl, hB⟩; have HB := Aside0.mk hB; clear hB))
  go_ret
  exact ⟨rfl, HB.out⟩
set_option maxHeartbeats 8000000 in
set_option maxRecDepth 100000 in
theorem ref15_Attach_full (k : Nat) (A0 : Option Addr) (c0 : Nat) (l : List S53) (g : Nat) (L : List (List S53)) (p0 : Int) (ok : Nat → Prop) (w : World) (hr : Kd.C k53 w A0 l.length l) (hc : l.length ≤ c0) (hs : RkS ok w g L) (hck : fairleadref05_Check.f k l = some (0, p0)) (hl : l.length ≤ 4096) (hL : L.length ≤ 32) (hm : ∀ l ∈ L, l.length ≤ 4096) (hf : 32 ≤ L.length ∨ 32768 < costOf L + l.length + 4) :
    Calls Try.prog 11 #[.pointer (some ⟨g, 0, none⟩), .slice A0 l.length c0] w fun e w' => e = .returned (.int .i64 16) ∧ Below w.heap.size w w' := by
  have HR := Aside0.mk hr
  have HC := Aside0.mk hc
  have HK := Aside0.mk hck
  have HS := Aside0.mk hs
  have HF := Aside0.mk hf
  have HMx := Aside0.mk hm
  have hci := costOf_in L hm
  obtain ⟨co, hco⟩ : ∃ co, co = costOf L := ⟨_, rfl⟩
  rw [← hco] at hci
  have HCo := Aside0.mk hco
  have k0 : 0 ≤ co := hci.1
  have k1 : co ≤ 131200 := by have := hci.2; omega
  clear hr hc hs hck hf hm hci hco
  by_cases c1 : (32 : Int) ≤ (L.length : Int)
  · have b1 : decide ((32 : Int) ≤ (L.length : Int)) = true := decide_eq_true c1
    have b2 : decide (32 ≤ L.length) = true := decide_eq_true (by omega)
    clear c1 HF
    go_enter Try.func11, Try.ntmps11
    go_wp2_with (first | (go_at_call 23; (refine (fairleadref05_Check.calls k _ _ l 0 p0 _ HR.out HC.out HK.out).mono ?_); rintro e w1 ⟨rfl, hB⟩; obtain ⟨A, c, hb, hlc, hR, hC⟩ := (HS.out.below hB).open_; have z0 := (blk_cell hb 0).trans (show _ = some (.slice A L.length c : Value) from rfl); have HB := Aside0.mk hB; clear hB hb hlc hR hC))
    go_ret
    exact ⟨rfl, HB.out⟩
  · have b1 : decide ((32 : Int) ≤ (L.length : Int)) = false := decide_eq_false c1
    have b2 : decide (32 ≤ L.length) = false := decide_eq_false (by omega)
    have b3 : decide (32768 < co + (l.length : Int) + 4) = true := decide_eq_true (by have := HF.out; rw [← HCo.out] at this; omega)
    clear c1 HF
    go_enter Try.func11, Try.ntmps11
    go_wp2_with (first | (go_at_call 23; (refine (fairleadref05_Check.calls k _ _ l 0 p0 _ HR.out HC.out HK.out).mono ?_); rintro e w1 ⟨rfl, hB⟩; obtain ⟨A, c, hb, hlc, hR, hC⟩ := (HS.out.below hB).open_; have z0 := (blk_cell hb 0).trans (show _ = some (.slice A L.length c : Value) from rfl); have HB := Aside0.mk hB; clear hB hb hlc hR hC) | (go_at_call 14; (refine (fairleadref15_Stack_Cost.sk g L ok _ (HS.out.below HB.out) (by omega) HMx.out).mono ?_); rintro e w2 ⟨rfl, rfl⟩; rw [← HCo.out]))
    go_ret
    exact ⟨rfl, HB.out⟩
set_option maxHeartbeats 8000000 in
set_option maxRecDepth 100000 in
theorem ref15_Attach_ok (k : Nat) (A0 : Option Addr) (c0 : Nat) (l : List S53) (g : Nat) (L : List (List S53)) (p0 : Int) (ok : Nat → Prop) (w : World) (hr : Kd.C k53 w A0 l.length l) (hc : l.length ≤ c0) (hs : RkS ok w g L) (hck : fairleadref05_Check.f k l = some (0, p0)) (hl0 : 0 < l.length) (hl : l.length ≤ 4096) (hL : L.length < 32) (hm : ∀ l ∈ L, l.length ≤ 4096) (hf : costOf L + l.length + 4 ≤ 32768) :
    Calls Try.prog 11 #[.pointer (some ⟨g, 0, none⟩), .slice A0 l.length c0] w fun e w' => e = .returned (.int .i64 0) ∧ Mine.But (fun k => k = g ∨ ok k) w w' ∧ RkS (fun k => ok k ∨ w.heap.size ≤ k) w' g (L ++ [l]) := by
  have HR := Aside0.mk hr
  have HC := Aside0.mk hc
  have HK := Aside0.mk hck
  have HG := Aside0.mk hs.lt
  have HO := Aside0.mk hs.og
  have HS := Aside0.mk (hs.more (ok' := fun k => ok k ∧ k < w.heap.size) (fun k hk h => ⟨h, hk⟩) (fun h => hs.og h.1))
  have HMx := Aside0.mk hm
  have hci := costOf_in L hm
  obtain ⟨co, hco⟩ : ∃ co, co = costOf L := ⟨_, rfl⟩
  rw [← hco] at hci hf
  have HCo := Aside0.mk hco
  have k0 : 0 ≤ co := hci.1
  have k1 : co ≤ 131200 := by have := hci.2; omega
  have b1 : decide ((32 : Int) ≤ (L.length : Int)) = false := decide_eq_false (by omega)
  have b2 : decide (32 ≤ L.length) = false := decide_eq_false (by omega)
  have b3 : decide (32768 < co + (l.length : Int) + 4) = false := decide_eq_false (by omega)
  clear hr hc hs hck hm hci hco
  go_enter Try.func11, Try.ntmps11
  go_wp2_with (first | (go_at_call 23; (refine (fairleadref05_Check.calls k _ _ l 0 p0 _ HR.out HC.out HK.out).mono ?_); rintro e w1 ⟨rfl, hB⟩; obtain ⟨A, c, hb, hlc, hR, hC⟩ := (HS.out.below hB).open_; have z0 := (blk_cell hb 0).trans (show _ = some (.slice A L.length c : Value) from rfl); have f0 := blk_frozen hb 0; have HB := Aside0.mk hB; have HBk := Aside0.mk hb; have HRow := Aside0.mk hR; clear hB hb hlc hR hC) | (go_at_call 14; (refine (fairleadref15_Stack_Cost.sk g L _ _ (HS.out.below HB.out) (by omega) HMx.out).mono ?_); rintro e w2 ⟨rfl, rfl⟩; rw [← HCo.out]))
  have z0d : w1.drew.cell? ⟨g, 0, none⟩ = some (.slice A L.length c) := z0
  have HB5 := Aside0.mk (show Below w.heap.size w (w1.drew.alloc (.cells #[] 53)) from (below_drew HB.out).alloc HB.out.size _)
  have z5 : (w1.drew.alloc (.cells #[] 53)).cell? ⟨g, 0, none⟩ = some (.slice A L.length c) := (blk_cell (blk_alloc (w := w1.drew) HBk.out _) 0).trans rfl
  obtain ⟨inner, hrep, hsrc⟩ := sk_rows (Kd.C_below HR.out HB5.out) (w1.drew.alloc (.cells #[] 53)) 0 (fun _ => False)
  have HRep := Aside0.mk hrep
  have HSrc := Aside0.mk hsrc
  clear hrep hsrc
  refine start_ (n := 13) (S := fun w' => w'.cell? ⟨g, 0, none⟩ = some (.slice A L.length c)) (ds := [12]) #[false, false, false, false, false, false, false, false, false, false, false, false, false] (by kernel_rfl) rfl rfl (z0d) (fun hHeld => ?_)
  refine Mine.pS 0 (some 30) ?_; refine Mine.pS 1 (some 31) ?_; refine Mine.pS 2 (some 32) ?_; refine Mine.pS 3 (some 33) ?_; refine Mine.pS 6 (some 36) ?_; refine Mine.tS 4 (some 34) hHeld ?_
  refine one_ (i := 5) (N := some 35) #[true, true, true, true, true, true, true, false, false, false, false, false, false] rfl rfl (by kernel_rfl) (by decide) (fun K hK => ?_)
  refine value_ (w1 := ?_) (v := ?_) (by rfl) rfl ?_ ?_
  rotate_left 2
  · go_simp
    constructor
    · rfl
    · rfl
  refine hK.out _ _ (z5) (fun hHeld => ?_)
  clear hK K
  refine norm_ (a' := ?_) ?_ ?_
  rotate_left
  · show Act.put _ (some 35) _ = _
    simp only [Act.put, List.setIfInBounds_toArray, List.set_cons_zero, List.set_cons_succ, i64_w, i32_w]
    rfl
  refine one_ (i := 7) (N := some 37) #[true, true, true, true, true, true, true, true, false, false, false, false, false] rfl rfl (by kernel_rfl) (by decide) (fun K hK => ?_)
  refine Mine.spread_step k53 (W := w1.drew.alloc (.cells #[] 53)) rfl (.tmp 35) (.tmp 36) 38 53 (.agg #[.int .u16 0, .int .u8 0, .int .u8 0, .int .u32 0]) 8 rfl Try.underlying38 sk_info53 rfl (by decide) (by decide) (ok := fun k => w.heap.size ≤ k) (okp := fun _ => False) (b := w1.drew.heap.size) (l := l) (inner := inner) rfl rfl (blk_new w1.drew _) rfl hl0 HRep.out HSrc.out (fun _ h => h.elim) (fun k h => Nat.le_trans HB5.out.size h) HB.out.size (by omega) ?_
  intro A5 c5 w5 hR5 hB5
  have hbk5 := hB5.blk (blk_alloc (w := w1.drew) HBk.out _) (fun e => by have := HG.out; have := HB.out.size; have : g = w1.heap.size := e; omega)
  have y5 := (blk_cell hbk5 0).trans (show _ = some (.slice A L.length c : Value) from rfl)
  have HBk5 := Aside0.mk hbk5
  have HR5 := Aside0.mk hR5
  have HBt5 := Aside0.mk hB5
  clear hR5 hB5 hbk5
  refine hK.out _ _ (y5) (fun hHeld => ?_)
  clear hK K
  refine norm_ (a' := ?_) ?_ ?_
  rotate_left
  · show Act.put _ (some 37) _ = _
    simp only [Act.put, List.setIfInBounds_toArray, List.set_cons_zero, List.set_cons_succ, i64_w, i32_w]
    rfl
  refine one_ (i := 8) (N := some 38) #[true, true, true, true, true, true, true, true, true, false, false, false, false] rfl rfl (by kernel_rfl) (by decide) (fun K hK => ?_)
  refine value_ (w1 := ?_) (v := ?_) (by rfl) rfl ?_ ?_
  rotate_left 2
  · go_simp
    constructor
    · rfl
    · rfl
  refine hK.out _ _ (((blk_cell (blk_alloc HBk5.out _) 0).trans rfl)) (fun hHeld => ?_)
  clear hK K
  refine norm_ (a' := ?_) ?_ ?_
  rotate_left
  · show Act.put _ (some 38) _ = _
    simp only [Act.put, List.setIfInBounds_toArray, List.set_cons_zero, List.set_cons_succ, i64_w, i32_w]
    rfl
  refine one_ (i := 9) (N := some 39) #[true, true, true, true, true, true, true, true, true, true, false, false, false] rfl rfl (by kernel_rfl) (by decide) (fun K hK => ?_)
  refine Kd.R_append_step (Kd.slice 53 k53) (w0 := w5) (W := w5) 0 (by rfl) (.tmp 34) (.tmp 38) 22 38 (.slice none 0 0) 24 rfl Try.underlying22 sk_info38 rfl (by decide) (by decide) (.slice A L.length c) L l [.slice A5 l.length c5] (fun k => ok k ∨ w.heap.size ≤ k) (fun k => w.heap.size ≤ k) rfl rfl (Kd.M_row HR5.out) (fun k h => ⟨Or.inr h, fun e => by have := (HRow.out.1 k e.symm).2; omega⟩) (fun k h => Or.inr (Nat.le_trans (Nat.le_trans HB5.out.size HBt5.out.size) h)) (Kd.R_mono (Mine.R_but (Kd.R_alloc (Kd.R_drew HRow.out) _) HBt5.out (fun k _ hk e => by have := hk.2; have := HB.out.size; have : k = w1.heap.size := e; omega)) (fun k h => Or.inl h.1)) (Below.refl _ _) (Nat.zero_le _) (by omega) ?_
  intro v9 w9 hR9 _ hg9 _
  obtain ⟨A9, c9, e9⟩ := Kd.R_slice hR9
  rw [List.length_append, List.length_singleton] at e9
  subst e9
  have hb9 := blk_grown HBk5.out hg9 (fun e => by have := (HRow.out.1 g e.symm).1; exact HO.out this)
  have y9 := (blk_cell hb9 0).trans (show _ = some (.slice A L.length c : Value) from rfl)
  have e9 := blk_frozen hb9 0
  have HBk9 := Aside0.mk hb9
  have HR9 := Aside0.mk hR9
  have HG9 := Aside0.mk hg9
  clear hR9 hg9 hb9
  refine hK.out _ _ (y9) (fun hHeld => ?_)
  clear hK K
  refine norm_ (a' := ?_) ?_ ?_
  rotate_left
  · show Act.put _ (some 39) _ = _
    simp only [Act.put, List.setIfInBounds_toArray, List.set_cons_zero, List.set_cons_succ, i64_w, i32_w]
    rfl
  refine Mine.pS 10 (some 40) ?_; refine Mine.pS 11 (some 41) ?_
  refine last_ (i := 12) (N := none) #[true, true, true, true, true, true, true, true, true, true, true, true, true] rfl rfl (by kernel_rfl) (by decide) (fun K hK => ?_)
  refine skip_ (w1 := ?_) (by rfl) rfl ?_ ?_
  rotate_left
  · go_simp
    rfl
  refine hK.out _ _ ?_
  clear hK K
  refine done_ (by kernel_rfl) ?_
  go_wp2
  go_ret
  refine ⟨rfl, ?_, ⟨_, blk_put HBk9.out 0 _ rfl, ?_⟩, ?_⟩
  · have h1 : Mine.But (fun k => k = g ∨ ok k) w w5 := (Mine.But.of_below HB5.out).join HBt5.out (fun i hi e => by have := HB.out.size; have : i = w1.heap.size := e; omega)
    have h2 : Mine.But (fun k => k = g ∨ ok k) w w9 := h1.join (Mine.But.of_grown (S := fun k => ok k) HG9.out (fun k e _ => (HRow.out.1 k e).1)) (fun i _ h => Or.inr h)
    exact Mine.But.setCell (p := ⟨g, 0, none⟩) h2 (fun _ => Or.inl rfl) _
  · exact Kd.R_far (p := ⟨g, 0, none⟩) HR9.out (fun k hk (e_ : k = g) => by subst e_; rcases hk with h | h; exact HO.out h; have := HG.out; omega) _
  · rintro (h | h)
    · exact HO.out h
    · have := HG.out; omega
theorem fairleadref15_Stack_Attach.sk (k : Nat) (A0 : Option Addr) (c0 : Nat) (l : List S53) (g : Nat) (L : List (List S53)) (e0 p0 : Int) (ok : Nat → Prop) (w : World) (hr : Kd.C k53 w A0 l.length l) (hc : l.length ≤ c0) (hs : RkS ok w g L) (hck : fairleadref05_Check.f k l = some (e0, p0)) (hl : e0 = 0 → 1 ≤ l.length ∧ l.length ≤ 4096) (hL : L.length ≤ 32) (hm : ∀ l ∈ L, l.length ≤ 4096) :
    Calls Try.prog 11 #[.pointer (some ⟨g, 0, none⟩), .slice A0 l.length c0] w fun e w' => e = .returned (.int .i64 (ATT e0 L (costOf L) l).1) ∧ Mine.But (fun k => k = g ∨ ok k) w w' ∧ RkS (fun k => ok k ∨ w.heap.size ≤ k) w' g (ATT e0 L (costOf L) l).2.1 := by
  have hmore : RkS (fun k => ok k ∨ w.heap.size ≤ k) w g L := hs.more (fun k _ h => Or.inl h) (fun h => by rcases h with h | h; exact hs.og h; have := hs.lt; omega)
  by_cases he : e0 = 0
  · subst he
    by_cases hf : 32 ≤ L.length ∨ 32768 < costOf L + l.length + 4
    · have e : ATT 0 L (costOf L) l = (16, L, costOf L) := by unfold ATT; rw [if_neg (by simp), if_pos hf]
      rw [e]
      exact (ref15_Attach_full k A0 c0 l g L p0 ok w hr hc hs hck (hl rfl).2 hL hm hf).mono fun _ _ h => ⟨h.1, Mine.But.of_below h.2, hmore.below h.2⟩
    · have e : ATT 0 L (costOf L) l = (0, L ++ [l], costOf L + l.length + 4) := by unfold ATT; rw [if_neg (by simp), if_neg hf]
      rw [e]
      exact ref15_Attach_ok k A0 c0 l g L p0 ok w hr hc hs hck (hl rfl).1 (hl rfl).2 (by omega) hm (by omega)
  · have e : ATT e0 L (costOf L) l = (e0, L, costOf L) := by unfold ATT; rw [if_pos he]
    rw [e]
    exact (ref15_Attach_err k A0 c0 l g L e0 p0 w hr hc hck he).mono fun _ _ h => ⟨h.1, Mine.But.of_below h.2, hmore.below h.2⟩
def fairleadref04_number.l0 : Nat → List Int → Int → Int → Option (Int)
  | 0, _, _, _ => none
  | k + 1, x0, x3, x4 => if x4 ≥ 0 then (if 0 ≤ x4 then (if x4 < (x0.length : Int) then (fairleadref04_number.l0 k x0 (IntKind.u64.wrap ((IntKind.u64.wrap (x3 * 256)) + (IntKind.u64.wrap (rd x0 x4)))) (wrap64 (x4 - 1))) else (none)) else (none)) else (some x3)
def fairleadref04_number.f (k : Nat) (l0 : List Int) : Option (Int) := fairleadref04_number.l0 k l0 0 (wrap64 ((l0.length : Int) - 1))
set_option maxHeartbeats 8000000 in
set_option maxRecDepth 100000 in
theorem fairleadref04_number.calls (k : Nat) (A0 : Option Addr) (c0 : Nat) (l0 : List Int) (r : Int) (w : World) (hr0 : Kd.C (Kd.int .u8) w A0 l0.length l0) (hc0 : l0.length ≤ c0) (h : fairleadref04_number.f k l0 = some r) :
    Calls Try.prog 53 #[.slice A0 l0.length c0] w fun e w' => e = .returned (.int .u64 r) ∧ Drawn0 w w' := by
  have HR0 := Aside0.mk hr0
  have HC0 := Aside0.mk hc0
  clear hr0 hc0
  have H : (fairleadref04_number.l0 k l0 0 (wrap64 ((l0.length : Int) - 1))) = some r := h
  clear h
  have H' := Aside0.mk H
  clear H
  go_enter Try.func53, Try.ntmps53
  go_wp2
  go_loopg [3, 4] k (fun kq v3 v4 w' => ∃ (x3_1 : Int) (x4_1 : Int), v3 = .int .u64 x3_1 ∧ v4 = .int .i64 x4_1 ∧ Aside0 (fairleadref04_number.l0 kq l0 x3_1 x4_1 = some r) ∧ Aside0 (kq ≤ k) ∧ Drawn0 w w')
  case atStart => exact ⟨(0), (wrap64 ((l0.length : Int) - 1)), (by first | rfl | (simp; done) | (simp [*]; done)), (by first | rfl | (simp; done) | (simp [*]; done)), H', ⟨Nat.le_refl _⟩, by repeat (first | exact Drawn0.refl _ | apply Drawn0.step)⟩
  case round =>
    clear H'
    obtain ⟨x3_1, x4_1, rfl, rfl, HA, HK1, ⟨m1, rfl⟩⟩ := hrel
    cases gk with
    | zero => exact absurd HA.out (by simp [fairleadref04_number.l0])
    | succ k1 =>
      have H := HA.out
      clear HA
      simp only [fairleadref04_number.l0] at H
      by_cases c2 : x4_1 ≥ 0
      · rw [if_pos c2] at H
        have c2b0 : decide (0 ≤ x4_1) = true := decide_eq_true c2
        clear c2
        by_cases c3 : 0 ≤ x4_1
        · rw [if_pos c3] at H
          have c3b0 : decide (0 ≤ x4_1) = true := decide_eq_true c3
          clear c3
          by_cases c4 : x4_1 < (l0.length : Int)
          · rw [if_pos c4] at H
            have c4b0 : decide (x4_1 < (l0.length : Int)) = true := decide_eq_true c4
            clear c4
            have H' := Aside0.mk H
            clear H
            have p178 : 0 ≤ (x4_1 : Int) := of_decide_eq_true (by first | (with_reducible assumption) | assumption)
            have q178 : x4_1 < (l0.length : Int) := of_decide_eq_true (by first | (with_reducible assumption) | assumption)
            obtain ⟨ad178, e178, hx178_0⟩ := Kd.at_int HR0.out x4_1 p178 q178
            cases e178
            replace p178 := eq_true p178
            replace q178 := eq_true q178
            go_wp2
            go_roundg k1
            case measure => have := HK1.out; omega
            case rel => exact ⟨(IntKind.u64.wrap ((IntKind.u64.wrap (x3_1 * 256)) + (IntKind.u64.wrap (rd l0 x4_1)))), (wrap64 (x4_1 - 1)), (by first | rfl | (simp; done) | (simp [*]; done)), (by first | rfl | (simp; done) | (simp [*]; done)), H', ⟨by have := HK1.out; omega⟩, by repeat (first | exact Drawn0.refl _ | apply Drawn0.step)⟩
          · rw [if_neg c4] at H
            exact absurd H (by simp)
        · rw [if_neg c3] at H
          exact absurd H (by simp)
      · rw [if_neg c2] at H
        have c2b0 : decide (0 ≤ x4_1) = false := decide_eq_false c2
        clear c2
        obtain rfl := Option.some.inj H
        go_wp2
        go_ret
        exact ⟨by first | rfl | (simp; done) | (simp [*]; done), by repeat (first | exact Drawn0.refl _ | apply Drawn0.step)⟩
def fairleadref04_low.l0 : Nat → Int → Int → List Int → Int → Option (List Int)
  | 0, _, _, _, _ => none
  | k + 1, x0, x1, x5, x6 => if x6 < x1 then (if x5.length < 140737488355328 then (fairleadref04_low.l0 k (IntKind.u64.wrap (Int.tdiv x0 256)) x1 (x5 ++ [(Int.tmod x0 256) % 256]) (wrap64 (x6 + 1))) else (none)) else (some x5)
def fairleadref04_low.f (k : Nat) (a0 : Int) (a1 : Int) : Option (List Int) := fairleadref04_low.l0 k a0 a1 ([] : List Int) 0
set_option maxHeartbeats 8000000 in
set_option maxRecDepth 100000 in
theorem fairleadref04_low.calls (k : Nat) (a0 : Int) (a1 : Int) (r : List Int) (w : World) (h : fairleadref04_low.f k a0 a1 = some r) :
    Calls Try.prog 58 #[.int .u64 a0, .int .i64 a1] w fun e w' => ∃ v0_ : Value, e = .returned (v0_) ∧ Kd.R (Kd.int .u8) 5 w' w.heap.size (fun _ => True) v0_ r ∧ Below w.heap.size w w' := by
  have HB := Aside0.mk (Below.refl w.heap.size w)
  have H : (fairleadref04_low.l0 k a0 a1 ([] : List Int) 0) = some r := h
  clear h
  have H' := Aside0.mk H
  clear H
  go_enter Try.func58, Try.ntmps58
  go_wp2
  go_loopg [0, 5, 6] k (fun kq v0 v5 v6 w' => ∃ (x0_1 : Int) (x5_1 : List Int) (x6_1 : Int), v0 = .int .u64 x0_1 ∧ v6 = .int .i64 x6_1 ∧ Aside0 (fairleadref04_low.l0 kq x0_1 a1 x5_1 x6_1 = some r) ∧ Aside0 (kq ≤ k) ∧ Aside0 (Kd.R (Kd.int .u8) 5 w' w.heap.size (fun _ => True) v5 x5_1) ∧ Aside0 (Below w.heap.size w w'))
  case atStart => exact ⟨(a0), (([] : List Int)), (0), (by first | rfl | (simp; done) | (simp [*]; done)), (by first | rfl | (simp; done) | (simp [*]; done)), H', ⟨Nat.le_refl _⟩, ⟨by first | exact Kd.R_nil _ _ _ _ _ | exact Kd.N_nil _ _ _ _ _ | exact Kd.V_nil _ _ _ _ _ | exact Kd.Q_nil _ _ _ _ _ | exact Kd.S_nil _ _ _ _ _⟩, ⟨by repeat (first | (with_reducible first | exact HB.out | apply below_alloc | apply pw_below_drewN | apply below_drew1) | exact HB.out)⟩⟩
  case round =>
    clear H'
    try clear p2
    obtain ⟨x0_1, x5_1, x6_1, rfl, rfl, HA, HK1, HO_5, HB⟩ := hrel
    cases gk with
    | zero => exact absurd HA.out (by simp [fairleadref04_low.l0])
    | succ k1 =>
      have H := HA.out
      clear HA
      simp only [fairleadref04_low.l0] at H
      by_cases c3 : x6_1 < a1
      · rw [if_pos c3] at H
        have c3b0 : decide (x6_1 < a1) = true := decide_eq_true c3
        clear c3
        by_cases c4 : x5_1.length < 140737488355328
        · rw [if_pos c4] at H
          have LMc4 := Aside0.mk c4
          clear c4
          obtain ⟨y179, hy179⟩ : ∃ y_ : List Int, y_ = (x5_1 ++ [(Int.tmod x0_1 256) % 256]) := ⟨_, rfl⟩
          replace H : (fairleadref04_low.l0 k1 (IntKind.u64.wrap (Int.tdiv x0_1 256)) a1 y179 (wrap64 (x6_1 + 1))) = some r := by first | (rw [hy179]; with_reducible exact H) | (have H2_ := (Option.bind_some _ _).symm.trans H; rw [hy179]; with_reducible exact H2_) | (have H2_ := (Option.bind_some _ _).symm.trans H; with_reducible exact H2_) | with_reducible exact H | (rw [hy179]; exact H) | exact H
          have Ny179 := Aside0.mk hy179
          clear hy179
          have H' := Aside0.mk H
          clear H
          go_wp2_with (first | ((with_reducible refine gate_builtin (b := .append) (xs := #[.tmp 12, .tmp 16]) rfl ?_); at_builtin; refine Kd.R_append (Kd.int .u8) (w0 := w) w.heap.size rfl (.tmp 12) (.tmp 16) 93 5 (.int .u8 0) 1 rfl Try.underlying93 info5 rfl (by decide) (by omega) u5 x5_1 ((Int.tmod x0_1 256) % 256) [.int .u8 ((Int.tmod x0_1 256) % 256)] (fun _ => True) (fun _ => False) rfl rfl ?aP (fun _ hk => hk.elim) ?aF ?aO ?aB ?aS ?aL ?_; (case aP => exact rfl); (case aB => exact (by repeat (first | (with_reducible first | exact HB.out | apply below_alloc | apply pw_below_drewN | apply below_drew1) | exact HB.out))); (case aF => exact (fun _ _ => trivial)); (case aO => exact (by (with_reducible repeat (first | apply Kd.R_alloc | apply Kd.R_drewN | apply Kd.R_drew)); exact HO_5.out)); (case aS => exact (below_size (by repeat (first | (with_reducible first | exact HB.out | apply below_alloc | apply pw_below_drewN | apply below_drew1) | exact HB.out)))); (case aL => have := LMc4.out; omega); intro v180 w5 ho hb hg hat; rw [← Ny179.out] at ho; have n0_ := Aside0.mk (hb); have n1_ := Aside0.mk (ho); clear HB; clear HO_5; have HB := n0_; have HO181 := n1_; clear n0_ n1_; clear ho hb hg hat))
          go_roundg k1
          case measure => have := HK1.out; omega
          case rel => exact ⟨(IntKind.u64.wrap (Int.tdiv x0_1 256)), (y179), (wrap64 (x6_1 + 1)), (by first | rfl | (simp; done) | (simp [*]; done)), (by first | rfl | (simp; done) | (simp [*]; done)), H', ⟨by have := HK1.out; omega⟩, ⟨by (with_reducible repeat (first | apply Kd.R_alloc | apply Kd.R_drewN | apply Kd.R_drew)); exact HO181.out⟩, ⟨by repeat (first | (with_reducible first | exact HB.out | apply below_alloc | apply pw_below_drewN | apply below_drew1) | exact HB.out)⟩⟩
        · rw [if_neg c4] at H
          exact absurd H (by simp)
      · rw [if_neg c3] at H
        have c3b0 : decide (x6_1 < a1) = false := decide_eq_false c3
        clear c3
        obtain rfl := Option.some.inj H
        go_wp2
        go_ret
        exact ⟨_, by first | rfl | (simp [errW_none, errW_some] <;> rfl) | (simp [*, errW_none, errW_some] <;> rfl), by (with_reducible repeat (first | apply Kd.R_alloc | apply Kd.R_drewN | apply Kd.R_drew)); exact HO_5.out, by repeat (first | (with_reducible first | exact HB.out | apply below_alloc | apply pw_below_drewN | apply below_drew1) | exact HB.out)⟩
end Go.Proofs.Yteojfjlklikaoaa.M
