-- Laid by a program (wip/tools/myprint.py) out of the loaded program's own print: for each Go function a Lean function and the proof of its contract.
import Derived.Test.YtcomfhfednieoaaMx0
import Derived.Test.YtcomfhfednieoaaMx2
import Derived.Test.YtcomfhfednieoaaMx3
import Derived.Test.YtcomfhfednieoaaMx5
import Derived.Test.YtcomfhfednieoaaMx7
import Derived.Test.YtcomfhfednieoaaMx8
import Derived.Test.YtcomfhfednieoaaMx10
namespace Go.Proofs.Ytcomfhfednieoaa.M
open Go.RowKit Go.Proofs.YtcomfhfednieoaaW.PrintWords Go.Proofs.YtcomfhfednieoaaW.PrintLast Go.Proofs.YtcomfhfednieoaaW.PrintMore
attribute [local go_sem] max2_int min2_int max_two min_two max_three min_three max_four min_four   -- for this text's walks alone
set_option linter.unusedVariables false
set_option linter.unusedSimpArgs false

/-! ### fairleadlaw02_PackCut: function 8 -/
mutual
def fairleadlaw02_PackCut.j0 : Nat → List (S32) → Int → Bool → Bool → Option (Bool)
  | 0, _, _, _, _ => none
  | k + 1, x0, x1, x5, x19 => if x19 = true then (some x5) else ((fairleadlaw02_laid.f x0).bind fun bt237 => (if bt237.2 = 0 then (fairleadlaw02_PackCut.j1 k x0 x1 x5 bt237.1 ((bt237.1.length : Int) == 0)) else (fairleadlaw02_PackCut.j1 k x0 x1 x5 bt237.1 true)))
def fairleadlaw02_PackCut.j1 : Nat → List (S32) → Int → Bool → List Int → Bool → Option (Bool)
  | 0, _, _, _, _, _ => none
  | k + 1, x0, x1, x5, x7, x32 => if x32 = true then (some x5) else (if (x7.length : Int) = 0 then (none) else (if 0 ≤ (Int.tmod x1 (x7.length : Int)) then (if (Int.tmod x1 (x7.length : Int)) ≤ (x7.length : Int) then ((pack_Read.f (x7.take ((Int.tmod x1 (x7.length : Int)) : Int).toNat)).bind fun bt245 => (fairleadlaw02_PackCut.l0 k x0 x5 0 bt245.1 bt245.2)) else (none)) else (none)))
def fairleadlaw02_PackCut.l0 : Nat → List (S32) → Bool → Int → List Int → Int → Option (Bool)
  | 0, _, _, _, _, _ => none
  | k + 1, x0, x5, x10, x248000, x248001 => if x10 < (x0.length : Int) then (if 0 ≤ x10 then (if (rd_T32 x0 x10).f2 = true then ((pack_Reader_Text.f x248000 x248001).bind fun bt252 => (fairleadlaw02_PackCut.l0 k x0 x5 (wrap64 (x10 + 1)) bt252.2.1 bt252.2.2)) else ((pack_Reader_Num.f x248000 x248001 ((rd_T32 x0 x10).f1)).bind fun bt256 => (fairleadlaw02_PackCut.l0 k x0 x5 (wrap64 (x10 + 1)) bt256.2.1 bt256.2.2))) else (none)) else (if x5 = true then ((pack_Reader_End.f x248000 x248001).bind fun bt248 => (some (bt248.1 == 2))) else (some false))
end
def fairleadlaw02_PackCut.f (k : Nat) (l0 : List (S32)) (a1 : Int) : Option (Bool) := (fairleadlaw02_awake.f).bind fun t235 => ((fairleadlaw02_few.f k l0).bind fun t236 => (if t236 = true then (fairleadlaw02_PackCut.j0 k l0 a1 t235 (decide (a1 < 0))) else (fairleadlaw02_PackCut.j0 k l0 a1 t235 true)))
theorem fairleadlaw02_PackCut.mono_l : ∀ k, (∀ y0 y1 y2 y3, LeO (fairleadlaw02_PackCut.j0 k y0 y1 y2 y3) (fairleadlaw02_PackCut.j0 (k + 1) y0 y1 y2 y3)) ∧ (∀ y0 y1 y2 y3 y4, LeO (fairleadlaw02_PackCut.j1 k y0 y1 y2 y3 y4) (fairleadlaw02_PackCut.j1 (k + 1) y0 y1 y2 y3 y4)) ∧ (∀ y0 y1 y2 y3 y4, LeO (fairleadlaw02_PackCut.l0 k y0 y1 y2 y3 y4) (fairleadlaw02_PackCut.l0 (k + 1) y0 y1 y2 y3 y4))
  | 0 => ⟨fun _ _ _ _ r h => by simp [fairleadlaw02_PackCut.j0] at h, fun _ _ _ _ _ r h => by simp [fairleadlaw02_PackCut.j1] at h, fun _ _ _ _ _ r h => by simp [fairleadlaw02_PackCut.l0] at h⟩
  | k + 1 => by
    obtain ⟨ih0, ih1, ih2⟩ := fairleadlaw02_PackCut.mono_l k
    refine ⟨?_, ?_, ?_⟩
    · intro y0 y1 y2 y3
      unfold fairleadlaw02_PackCut.j0
      repeat' first
      | (with_reducible exact ih0 _ _ _ _)
      | (with_reducible exact ih1 _ _ _ _ _)
      | (with_reducible exact ih2 _ _ _ _ _)
      | (with_reducible exact fairleadlaw02_few.mono _ _)
      | (with_reducible exact LeO.refl _)
      | (with_reducible exact LeO.none _)
      | (with_reducible refine LeO.ite ?_ ?_)
      | (with_reducible refine LeO.bind ?_ (fun _ => ?_))
      | exact ih0 _ _ _ _
      | exact ih1 _ _ _ _ _
      | exact ih2 _ _ _ _ _
      | exact fairleadlaw02_few.mono _ _
      | exact LeO.none _
      | refine LeO.ite ?_ ?_
      | refine LeO.bind ?_ (fun _ => ?_)
    · intro y0 y1 y2 y3 y4
      unfold fairleadlaw02_PackCut.j1
      repeat' first
      | (with_reducible exact ih0 _ _ _ _)
      | (with_reducible exact ih1 _ _ _ _ _)
      | (with_reducible exact ih2 _ _ _ _ _)
      | (with_reducible exact fairleadlaw02_few.mono _ _)
      | (with_reducible exact LeO.refl _)
      | (with_reducible exact LeO.none _)
      | (with_reducible refine LeO.ite ?_ ?_)
      | (with_reducible refine LeO.bind ?_ (fun _ => ?_))
      | exact ih0 _ _ _ _
      | exact ih1 _ _ _ _ _
      | exact ih2 _ _ _ _ _
      | exact fairleadlaw02_few.mono _ _
      | exact LeO.none _
      | refine LeO.ite ?_ ?_
      | refine LeO.bind ?_ (fun _ => ?_)
    · intro y0 y1 y2 y3 y4
      unfold fairleadlaw02_PackCut.l0
      repeat' first
      | (with_reducible exact ih0 _ _ _ _)
      | (with_reducible exact ih1 _ _ _ _ _)
      | (with_reducible exact ih2 _ _ _ _ _)
      | (with_reducible exact fairleadlaw02_few.mono _ _)
      | (with_reducible exact LeO.refl _)
      | (with_reducible exact LeO.none _)
      | (with_reducible refine LeO.ite ?_ ?_)
      | (with_reducible refine LeO.bind ?_ (fun _ => ?_))
      | exact ih0 _ _ _ _
      | exact ih1 _ _ _ _ _
      | exact ih2 _ _ _ _ _
      | exact fairleadlaw02_few.mono _ _
      | exact LeO.none _
      | refine LeO.ite ?_ ?_
      | refine LeO.bind ?_ (fun _ => ?_)
theorem fairleadlaw02_PackCut.mono : ∀ a0 a1 k, LeO (fairleadlaw02_PackCut.f k a0 a1) (fairleadlaw02_PackCut.f (k + 1) a0 a1) := by
  intro a0 a1 k
  obtain ⟨ih0, ih1, ih2⟩ := fairleadlaw02_PackCut.mono_l k
  unfold fairleadlaw02_PackCut.f
  repeat' first
      | (with_reducible exact ih0 _ _ _ _)
      | (with_reducible exact ih1 _ _ _ _ _)
      | (with_reducible exact ih2 _ _ _ _ _)
      | (with_reducible exact fairleadlaw02_few.mono _ _)
      | (with_reducible exact LeO.refl _)
      | (with_reducible exact LeO.none _)
      | (with_reducible refine LeO.ite ?_ ?_)
      | (with_reducible refine LeO.bind ?_ (fun _ => ?_))
      | exact ih0 _ _ _ _
      | exact ih1 _ _ _ _ _
      | exact ih2 _ _ _ _ _
      | exact fairleadlaw02_few.mono _ _
      | exact LeO.none _
      | refine LeO.ite ?_ ?_
      | refine LeO.bind ?_ (fun _ => ?_)
set_option maxHeartbeats 8000000 in
set_option maxRecDepth 100000 in
theorem fairleadlaw02_PackCut.calls (k : Nat) (A0 : Option Addr) (c0 : Nat) (l0 : List (S32)) (a1 : Int) (r : Bool) (w : World) (hr0 : Kd.C k32 w A0 l0.length l0) (hc0 : l0.length ≤ c0) (h : fairleadlaw02_PackCut.f k l0 a1 = some r) :
    Calls Try.prog 8 #[.slice A0 l0.length c0, .int .i64 a1] w fun e w' => e = .returned (.bool r) ∧ Below w.heap.size w w' := by
  have HR0 := Aside0.mk hr0
  have HC0 := Aside0.mk hc0
  clear hr0 hc0
  have HB := Aside0.mk (Below.refl w.heap.size w)
  have H : ((fairleadlaw02_awake.f).bind fun t235 => ((fairleadlaw02_few.f k l0).bind fun t236 => (if t236 = true then (fairleadlaw02_PackCut.j0 k l0 a1 t235 (decide (a1 < 0))) else (fairleadlaw02_PackCut.j0 k l0 a1 t235 true)))) = some r := h
  clear h
  replace H := Option.bind_eq_some_iff.mp H
  obtain ⟨t235, A30, H⟩ := H
  replace H : ((fairleadlaw02_few.f k l0).bind fun t236 => (if t236 = true then (fairleadlaw02_PackCut.j0 k l0 a1 t235 (decide (a1 < 0))) else (fairleadlaw02_PackCut.j0 k l0 a1 t235 true))) = some r := H
  have A3 := Aside0.mk A30
  clear A30
  replace H := Option.bind_eq_some_iff.mp H
  obtain ⟨t236, A40, H⟩ := H
  replace H : (if t236 = true then (fairleadlaw02_PackCut.j0 k l0 a1 t235 (decide (a1 < 0))) else (fairleadlaw02_PackCut.j0 k l0 a1 t235 true)) = some r := H
  have A4 := Aside0.mk A40
  clear A40
  have HC5 := Aside0.mk H
  clear H
  go_enter Try.func8, Try.ntmps8
  go_upto_region 3 with (first | ((with_reducible refine gate_callee (f := 9) rfl ?_); refine goesL_ (some 11) rfl rfl Try.func9 (by kernel_rfl) rfl #[] rfl (by (try simp only [List.map_toArray, List.map_cons, List.map_nil]); first | done | rfl | (simp only [List.length_drop, List.length_take]; rfl)) ?_; (with_reducible refine (fairleadlaw02_awake.calls  t235 _ A3.out).mono ?_); rintro e w6 ⟨rfl, hb⟩; refine ⟨_, rfl, ?_⟩; have n0_ := Aside0.mk (below_step (by repeat (first | (with_reducible first | exact HB.out | apply below_alloc | apply pw_below_drewN | apply below_drew1) | exact HB.out)) hb); clear HB; have HB := n0_; clear n0_; (try clear hb); (try clear hb2); (try clear hk); (try clear hi)) | ((with_reducible refine gate_callee (f := 10) rfl ?_); refine goesL_ (some 13) rfl rfl Try.func10 (by kernel_rfl) rfl #[.slice A0 l0.length c0] rfl (by (try simp only [List.map_toArray, List.map_cons, List.map_nil]); first | done | rfl | (simp only [List.length_drop, List.length_take]; rfl)) ?_; (with_reducible refine (fairleadlaw02_few.calls k _ _ l0 t236 _ ?side1 ?side2 A4.out).mono ?_); (case side1 => repeat (first | exact (Kd.C_below HR0.out HB.out) | (with_reducible refine Kd.C_alloc ?_ _) | (with_reducible refine Kd.C_drewN ?_ _) | (with_reducible refine Kd.C_drew ?_))); (case side2 => exact HC0.out); rintro e w' ⟨rfl, ⟨nd, rfl⟩⟩; refine ⟨_, rfl, ?_⟩))
  (try simp only [Act.put, List.setIfInBounds_toArray, List.set_cons_zero, List.set_cons_succ])
  go_cut [19] (fun v19 wc => ∃ (kq : Nat) (x19_4 : Bool), v19 = .bool x19_4 ∧ Aside0 (fairleadlaw02_PackCut.j0 kq l0 a1 t235 x19_4 = some r) ∧ Aside0 (kq ≤ k) ∧ Aside0 (Below w.heap.size w wc))
  case first =>
    have H := HC5.out
    clear HC5
    by_cases c7 : t236 = true
    · subst c7
      have H1 : (fairleadlaw02_PackCut.j0 k l0 a1 t235 (decide (a1 < 0))) = some r := by rw [if_pos rfl] at H; exact H
      clear H
      have H := H1
      clear H1
      have H' := Aside0.mk H
      clear H
      go_wp2
      go_meet
      case rel => exact ⟨_, (decide (a1 < 0)), (by first | rfl | (simp; done) | (simp [*]; done)), H', ⟨by first | omega | exact Nat.le_refl _⟩, ⟨by repeat (first | (with_reducible first | exact HB.out | apply below_alloc | apply pw_below_drewN | apply below_drew1) | exact HB.out)⟩⟩
    · replace c7 := Bool.eq_false_iff.mpr c7
      subst c7
      have H1 : (fairleadlaw02_PackCut.j0 k l0 a1 t235 true) = some r := by rw [if_neg (show ¬ (false = true) by decide)] at H; exact H
      clear H
      have H := H1
      clear H1
      have H' := Aside0.mk H
      clear H
      go_wp2
      go_meet
      case rel => exact ⟨_, (true), (by first | rfl | (simp; done) | (simp [*]; done)), H', ⟨by first | omega | exact Nat.le_refl _⟩, ⟨by repeat (first | (with_reducible first | exact HB.out | apply below_alloc | apply pw_below_drewN | apply below_drew1) | exact HB.out)⟩⟩
  case rest =>
    clear HC5
    try clear c1
    try clear p2
    try clear c7
    obtain ⟨kq, x19_4, rfl, HA, HJ4, HB⟩ := hcut
    cases kq with
    | zero => exact absurd HA.out (by simp [fairleadlaw02_PackCut.j0])
    | succ kj4 =>
      have H := HA.out
      clear HA
      simp only [fairleadlaw02_PackCut.j0] at H
      by_cases c8 : x19_4 = true
      · subst c8
        have H1 : (some t235) = some r := by rw [if_pos rfl] at H; exact H
        clear H
        have H := H1
        clear H1
        obtain rfl := Option.some.inj H
        go_wp2
        go_ret
        exact ⟨by first | rfl | (simp [errW_none, errW_some] <;> rfl) | (simp [*, errW_none, errW_some] <;> rfl), by repeat (first | (with_reducible first | exact HB.out | apply below_alloc | apply pw_below_drewN | apply below_drew1) | exact HB.out)⟩
      · replace c8 := Bool.eq_false_iff.mpr c8
        subst c8
        have H1 : ((fairleadlaw02_laid.f l0).bind fun bt237 => (if bt237.2 = 0 then (fairleadlaw02_PackCut.j1 kj4 l0 a1 t235 bt237.1 ((bt237.1.length : Int) == 0)) else (fairleadlaw02_PackCut.j1 kj4 l0 a1 t235 bt237.1 true))) = some r := by rw [if_neg (show ¬ (false = true) by decide)] at H; exact H
        clear H
        have H := H1
        clear H1
        replace H := Option.bind_eq_some_iff.mp H
        obtain ⟨⟨t237, t238⟩, A90, H⟩ := H
        replace H : (if t238 = 0 then (fairleadlaw02_PackCut.j1 kj4 l0 a1 t235 t237 ((t237.length : Int) == 0)) else (fairleadlaw02_PackCut.j1 kj4 l0 a1 t235 t237 true)) = some r := H
        have A9 := Aside0.mk A90
        clear A90
        have HC10 := Aside0.mk H
        clear H
        go_upto_region 6 with (first | ((with_reducible refine gate_callee (f := 11) rfl ?_); refine goesL_ (some 23) rfl rfl Try.func11 (by kernel_rfl) rfl #[.slice A0 l0.length c0] rfl (by (try simp only [List.map_toArray, List.map_cons, List.map_nil]); first | done | rfl | (simp only [List.length_drop, List.length_take]; rfl)) ?_; (with_reducible refine (fairleadlaw02_laid.calls _ _ l0 t237 t238 _ ?side1 ?side2 A9.out).mono ?_); (case side1 => repeat (first | exact (Kd.C_below HR0.out HB.out) | (with_reducible refine Kd.C_alloc ?_ _) | (with_reducible refine Kd.C_drewN ?_ _) | (with_reducible refine Kd.C_drew ?_))); (case side2 => exact HC0.out); rintro e w11 ⟨v239, rfl, ho0, hb⟩; refine ⟨_, rfl, ?_⟩; have n0_ := Aside0.mk (Kd.R_lower ho0 (below_size (by repeat (first | (with_reducible first | exact HB.out | apply below_alloc | apply pw_below_drewN | apply below_drew1) | exact HB.out)))); have n1_ := Aside0.mk (below_step (by repeat (first | (with_reducible first | exact HB.out | apply below_alloc | apply pw_below_drewN | apply below_drew1) | exact HB.out)) hb); clear HB; have HO240 := n0_; have HB := n1_; clear n0_ n1_; (try clear hb); (try clear hb2); (try clear hk); (try clear hi); (try clear ho0)))
        (try simp only [Act.put, List.setIfInBounds_toArray, List.set_cons_zero, List.set_cons_succ])
        go_cut [32] (fun v32 wc => ∃ (kq : Nat) (x32_9 : Bool), v32 = .bool x32_9 ∧ Aside0 (fairleadlaw02_PackCut.j1 kq l0 a1 t235 t237 x32_9 = some r) ∧ Aside0 (kq ≤ kj4) ∧ Aside0 (Kd.R (Kd.int .u8) 5 wc w.heap.size (fun _ => True) v239 t237) ∧ Aside0 (Below w.heap.size w wc))
        case first =>
          have H := HC10.out
          clear HC10
          by_cases c12 : t238 = 0
          · rw [if_pos c12] at H
            have c12b0 : (t238 == 0) = true := beq_iff_eq.mpr c12
            have c12b1 : (t238 != 0) = false := bne_eq_false_iff_eq.mpr c12
            clear c12
            (first | rw [c12b0] | (simp only [i64_w, i32_w]; rw [c12b0]) | skip)
            have H' := Aside0.mk H
            clear H
            obtain ⟨Ao13, co13, eo13⟩ := Kd.R_slice HO240.out
            subst eo13
            go_wp2
            go_meet
            case rel => exact ⟨_, (((t237.length : Int) == 0)), (by first | rfl | (simp; done) | (simp [*]; done)), H', ⟨by have := HJ4.out; first | omega | exact Nat.le_refl _⟩, ⟨by (with_reducible repeat (first | apply Kd.R_alloc | apply Kd.R_drewN | apply Kd.R_drew)); exact HO240.out⟩, ⟨by repeat (first | (with_reducible first | exact HB.out | apply below_alloc | apply pw_below_drewN | apply below_drew1) | exact HB.out)⟩⟩
          · rw [if_neg c12] at H
            have c12b0 : (t238 == 0) = false := beq_eq_false_iff_ne.mpr c12
            have c12b1 : (t238 != 0) = true := bne_iff_ne.mpr c12
            (first | rw [c12b0] | (simp only [i64_w, i32_w]; rw [c12b0]) | skip)
            have H' := Aside0.mk H
            clear H
            go_wp2
            go_meet
            case rel => exact ⟨_, (true), (by first | rfl | (simp; done) | (simp [*]; done)), H', ⟨by have := HJ4.out; first | omega | exact Nat.le_refl _⟩, ⟨by (with_reducible repeat (first | apply Kd.R_alloc | apply Kd.R_drewN | apply Kd.R_drew)); exact HO240.out⟩, ⟨by repeat (first | (with_reducible first | exact HB.out | apply below_alloc | apply pw_below_drewN | apply below_drew1) | exact HB.out)⟩⟩
        case rest =>
          clear HC10
          try clear c1
          try clear p2
          try clear c7
          try clear c8
          try clear c9
          try clear c10
          try clear c11
          try clear c12
          try clear c12b0
          try clear c12b1
          try clear p2
          obtain ⟨kq, x32_9, rfl, HA, HJ9, HO_7, HB⟩ := hcut
          cases kq with
          | zero => exact absurd HA.out (by simp [fairleadlaw02_PackCut.j1])
          | succ kj9 =>
            have H := HA.out
            clear HA
            simp only [fairleadlaw02_PackCut.j1] at H
            by_cases c14 : x32_9 = true
            · subst c14
              have H1 : (some t235) = some r := by rw [if_pos rfl] at H; exact H
              clear H
              have H := H1
              clear H1
              obtain rfl := Option.some.inj H
              go_wp2
              go_ret
              exact ⟨by first | rfl | (simp [errW_none, errW_some] <;> rfl) | (simp [*, errW_none, errW_some] <;> rfl), by repeat (first | (with_reducible first | exact HB.out | apply below_alloc | apply pw_below_drewN | apply below_drew1) | exact HB.out)⟩
            · replace c14 := Bool.eq_false_iff.mpr c14
              subst c14
              have H1 : (if (t237.length : Int) = 0 then (none) else (if 0 ≤ (Int.tmod a1 (t237.length : Int)) then (if (Int.tmod a1 (t237.length : Int)) ≤ (t237.length : Int) then ((pack_Read.f (t237.take ((Int.tmod a1 (t237.length : Int)) : Int).toNat)).bind fun bt245 => (fairleadlaw02_PackCut.l0 kj9 l0 t235 0 bt245.1 bt245.2)) else (none)) else (none))) = some r := by rw [if_neg (show ¬ (false = true) by decide)] at H; exact H
              clear H
              have H := H1
              clear H1
              by_cases c15 : (t237.length : Int) = 0
              · rw [if_pos c15] at H
                exact absurd H (by simp)
              · rw [if_neg c15] at H
                have c15b0 : ((t237.length : Int) == 0) = false := beq_eq_false_iff_ne.mpr c15
                have c15b1 : ((t237.length : Int) != 0) = true := bne_iff_ne.mpr c15
                have c15b2 : ¬ (t237 = []) := fun h_ => c15 (by rw [h_]; rfl)
                obtain ⟨ji16, hji16⟩ : ∃ j_ : Int, (Int.tmod a1 (t237.length : Int)) = j_ := ⟨_, rfl⟩
                replace H : (if 0 ≤ (ji16) then (if (ji16) ≤ (t237.length : Int) then ((pack_Read.f (t237.take ((ji16) : Int).toNat)).bind fun bt245 => (fairleadlaw02_PackCut.l0 kj9 l0 t235 0 bt245.1 bt245.2)) else (none)) else (none)) = some r := by first | (rw [hji16] at H; exact H) | (simp only [hji16] at H ⊢; exact H)
                by_cases c17 : 0 ≤ (ji16)
                · rw [if_pos c17] at H
                  have c17b0 := eq_true c17
                  have c17b1 : decide (0 ≤ (ji16)) = true := decide_eq_true c17
                  clear c17
                  by_cases c18 : (ji16) ≤ (t237.length : Int)
                  · rw [if_pos c18] at H
                    have c18b0 := eq_true c18
                    have c18b1 : decide ((ji16) ≤ (t237.length : Int)) = true := decide_eq_true c18
                    clear c18
                    obtain ⟨y241, hy241⟩ : ∃ y_ : List Int, y_ = (t237.take ((ji16) : Int).toNat) := ⟨_, rfl⟩
                    replace H : ((pack_Read.f y241).bind fun bt245 => (fairleadlaw02_PackCut.l0 kj9 l0 t235 0 bt245.1 bt245.2)) = some r := by first | (rw [hy241]; with_reducible exact H) | (have H2_ := (Option.bind_some _ _).symm.trans H; rw [hy241]; with_reducible exact H2_) | (have H2_ := (Option.bind_some _ _).symm.trans H; with_reducible exact H2_) | with_reducible exact H | (rw [hy241]; exact H) | exact H
                    have Ny241 := Aside0.mk hy241
                    clear hy241
                    replace H := Option.bind_eq_some_iff.mp H
                    obtain ⟨⟨t245, t246⟩, A190, H⟩ := H
                    replace H : (fairleadlaw02_PackCut.l0 kj9 l0 t235 0 t245 t246) = some r := H
                    have A19 := Aside0.mk A190
                    clear A190
                    have H' := Aside0.mk H
                    clear H
                    obtain ⟨Ao20, co20, eo20⟩ := Kd.R_slice HO_7.out
                    subst eo20
                    have q21 : ((ji16) : Int) ≤ ((t237.length : Int) : Int) := of_decide_eq_true (by first | (with_reducible assumption) | assumption)
                    obtain ⟨i021, hi021, _, hsz21, _⟩ := info_parts info5
                    have hroom21 : t237.length ≤ co20 := (Kd.R_reads' HO_7.out).2.1
                    have hC21 : Kd.C (Kd.int .u8) _ Ao20 t237.length t237 := (Kd.R_reads' HO_7.out).2.2
                    have hcut21 := cut_to (P := Try.prog) 25 5 .i64 Try.underlying25 hi021 Ao20 t237.length co20 (ji16) (of_decide_eq_true (by first | (with_reducible assumption) | assumption)) q21 hroom21
                    have hr21 := Kd.C_take (m := ((ji16) : Int).toNat) hC21 (by omega)
                    have hy21 : y241.length = ((ji16) : Int).toNat := (by rw [Ny241.out, List.length_take]; omega)
                    rw [← Ny241.out] at hr21
                    rw [← hy21] at hcut21
                    have HR244 := Aside0.mk hr21
                    have HC244 := Aside0.mk (show y241.length ≤ co20 from by omega)
                    clear hr21 hC21 hroom21 hi021 hsz21
                    have KY21 := Aside0.mk hy21
                    clear hy21
                    have KL21 := Aside0.mk (show ((ji16) : Int).toNat ≤ t237.length from by omega)
                    replace q21 := eq_true q21
                    go_wp2_with (first | ((with_reducible refine gate_callee (f := 14) rfl ?_); refine goesL_ (some 40) rfl rfl Try.func14 (by kernel_rfl) rfl #[.slice Ao20 y241.length co20] rfl (by (try simp only [List.map_toArray, List.map_cons, List.map_nil]); first | done | rfl | (simp only [List.length_drop, List.length_take]; rfl)) ?_; (with_reducible refine (pack_Read.calls _ _ y241 t245 t246 w _ ?side1 ?side2 ?side3 A19.out).mono ?_); (case side1 => repeat (first | (with_reducible first | exact HB.out | apply below_alloc | apply pw_below_drewN | apply below_drew1) | exact HB.out)); (case side2 => repeat (first | exact (by repeat (first | (with_reducible exact HR244.out) | (with_reducible refine Kd.C_alloc ?_ _) | (with_reducible refine Kd.C_drewN ?_ _) | (with_reducible refine Kd.C_drew ?_) | exact HR244.out)) | (with_reducible refine Kd.C_alloc ?_ _) | (with_reducible refine Kd.C_drewN ?_ _) | (with_reducible refine Kd.C_drew ?_))); (case side3 => exact HC244.out); rintro e w22 ⟨g247, rfl, hi, hb, hb2⟩; refine ⟨_, rfl, ?_⟩; have n0_ := Aside0.mk (Kd.R_below (by (with_reducible repeat (first | apply Kd.R_alloc | apply Kd.R_drewN | apply Kd.R_drew)); exact HO_7.out) hb2); have n1_ := Aside0.mk (Kd.C_below (by repeat (first | (with_reducible exact HR244.out) | (with_reducible refine Kd.C_alloc ?_ _) | (with_reducible refine Kd.C_drewN ?_ _) | (with_reducible refine Kd.C_drew ?_) | exact HR244.out)) hb2); have n2_ := Aside0.mk (hb); have n3_ := Aside0.mk (hi); clear HO_7; clear HR244; clear HB; have HO_7 := n0_; have HR244 := n1_; have HB := n2_; have HI247 := n3_; clear n0_ n1_ n2_ n3_; (try clear hb); (try clear hb2); (try clear hk); (try clear hi)))
                    go_loopg [10] kj9 (fun kq v10 w' => ∃ (x10_3 : Int) (x248000_3 : List Int) (x248001_3 : Int), v10 = .int .i64 x10_3 ∧ Aside0 (fairleadlaw02_PackCut.l0 kq l0 t235 x10_3 x248000_3 x248001_3 = some r) ∧ Aside0 (kq ≤ kj9) ∧ Aside0 (IsS52 w w' g247 x248000_3 x248001_3) ∧ Aside0 (Below w.heap.size w w'))
                    case atStart => exact ⟨(0), (t245), (t246), (by first | rfl | (simp; done) | (simp [*]; done)), H', ⟨Nat.le_refl _⟩, ⟨by repeat (first | (with_reducible first | exact HI247.out | apply IsS52.alloc | apply IsS52.drewN | apply IsS52.drew | apply IsS52.set_0 | apply IsS52.set_1) | exact HI247.out)⟩, ⟨by repeat (first | (with_reducible first | exact HB.out | apply below_alloc | apply pw_below_drewN | apply below_drew1 | refine below_set ?_ (IsS52.ge HI247.out)) | exact HB.out)⟩⟩
                    case round =>
                      clear H'
                      try clear c1
                      try clear p2
                      try clear q2
                      try clear c7
                      try clear c8
                      try clear c9
                      try clear c10
                      try clear c11
                      try clear c12
                      try clear c12b0
                      try clear c12b1
                      try clear c14
                      try clear c15
                      try clear c15b0
                      try clear c15b1
                      try clear c15b2
                      try clear c17
                      try clear c17b0
                      try clear c17b1
                      try clear c18
                      try clear c18b0
                      try clear c18b1
                      try clear q21
                      try clear p2
                      try clear q21
                      obtain ⟨x10_3, x248000_3, x248001_3, rfl, HA, HK3, HI247, HB⟩ := hrel
                      cases gk with
                      | zero => exact absurd HA.out (by simp [fairleadlaw02_PackCut.l0])
                      | succ k3 =>
                        have H := HA.out
                        clear HA
                        simp only [fairleadlaw02_PackCut.l0] at H
                        by_cases c23 : x10_3 < (l0.length : Int)
                        · rw [if_pos c23] at H
                          have c23b0 : decide (x10_3 < (l0.length : Int)) = true := decide_eq_true c23
                          clear c23
                          by_cases c24 : 0 ≤ x10_3
                          · rw [if_pos c24] at H
                            have c24b0 : decide (0 ≤ x10_3) = true := decide_eq_true c24
                            clear c24
                            obtain ⟨bq25, hbq25⟩ : ∃ b_ : Bool, b_ = ((rd_T32 l0 x10_3).f2) := ⟨_, rfl⟩
                            replace H : (if bq25 = true then ((pack_Reader_Text.f x248000_3 x248001_3).bind fun bt252 => (fairleadlaw02_PackCut.l0 k3 l0 t235 (wrap64 (x10_3 + 1)) bt252.2.1 bt252.2.2)) else ((pack_Reader_Num.f x248000_3 x248001_3 ((rd_T32 l0 x10_3).f1)).bind fun bt256 => (fairleadlaw02_PackCut.l0 k3 l0 t235 (wrap64 (x10_3 + 1)) bt256.2.1 bt256.2.2))) = some r := by rw [← hbq25] at H; exact H
                            have Nbq25 := Aside0.mk hbq25
                            clear hbq25
                            by_cases c26 : bq25 = true
                            · subst c26
                              have H1 : ((pack_Reader_Text.f x248000_3 x248001_3).bind fun bt252 => (fairleadlaw02_PackCut.l0 k3 l0 t235 (wrap64 (x10_3 + 1)) bt252.2.1 bt252.2.2)) = some r := by rw [if_pos rfl] at H; exact H
                              clear H
                              have H := H1
                              clear H1
                              replace H := Option.bind_eq_some_iff.mp H
                              obtain ⟨⟨t252, t253, t254⟩, A270, H⟩ := H
                              replace H : (fairleadlaw02_PackCut.l0 k3 l0 t235 (wrap64 (x10_3 + 1)) t253 t254) = some r := H
                              have A27 := Aside0.mk A270
                              clear A270
                              have H' := Aside0.mk H
                              clear H
                              have p251 : 0 ≤ (x10_3 : Int) := of_decide_eq_true (by first | (with_reducible assumption) | assumption)
                              have q251 : x10_3 < (l0.length : Int) := of_decide_eq_true (by first | (with_reducible assumption) | assumption)
                              obtain ⟨ad251, e251, hx251_0, hx251_1, hx251_2, hx251_3⟩ := at_T32 HR0.out x10_3 p251 q251
                              (try rw [← Nbq25.out] at hx251_2)
                              cases e251
                              replace hx251_0 := (HB.out.cell (World.block_lt_of_cell? w _ hx251_0)).trans hx251_0
                              replace hx251_1 := (HB.out.cell (World.block_lt_of_cell? w _ hx251_1)).trans hx251_1
                              replace hx251_2 := (HB.out.cell (World.block_lt_of_cell? w _ hx251_2)).trans hx251_2
                              replace hx251_3 := (HB.out.cell (World.block_lt_of_cell? w _ hx251_3)).trans hx251_3
                              replace p251 := eq_true p251
                              replace q251 := eq_true q251
                              go_wp2_with (first | ((with_reducible refine gate_callee (f := 15) rfl ?_); refine goesL_ (some 55) rfl rfl Try.func15 (by kernel_rfl) rfl #[.pointer (some ⟨g247, 0, none⟩)] rfl (by (try simp only [List.map_toArray, List.map_cons, List.map_nil]); first | done | rfl | (simp only [List.length_drop, List.length_take]; rfl)) ?_; (with_reducible refine (pack_Reader_Text.calls g247 x248000_3 x248001_3 t252 t253 t254 w _ ?side1 ?side2 A27.out).mono ?_); (case side1 => repeat (first | (with_reducible first | exact HI247.out | apply IsS52.alloc | apply IsS52.drewN | apply IsS52.drew | apply IsS52.set_0 | apply IsS52.set_1) | exact HI247.out)); (case side2 => repeat (first | (with_reducible first | exact HB.out | apply below_alloc | apply pw_below_drewN | apply below_drew1 | refine below_set ?_ (IsS52.ge HI247.out)) | exact HB.out)); rintro e w28 ⟨rfl, hi, hb, hk⟩; refine ⟨_, rfl, ?_⟩; have n0_ := Aside0.mk (hb); have n1_ := Aside0.mk (hi); clear HB; clear HI247; have HB := n0_; have HI247 := n1_; clear n0_ n1_; (try clear hb); (try clear hb2); (try clear hk); (try clear hi)))
                              go_roundg k3
                              case measure => have := HJ4.out; have := HJ9.out; have := HK3.out; omega
                              case rel => exact ⟨(wrap64 (x10_3 + 1)), (t253), (t254), (by first | rfl | (simp; done) | (simp [*]; done)), H', ⟨by have := HJ4.out; have := HJ9.out; have := HK3.out; omega⟩, ⟨by repeat (first | (with_reducible first | exact HI247.out | apply IsS52.alloc | apply IsS52.drewN | apply IsS52.drew | apply IsS52.set_0 | apply IsS52.set_1) | exact HI247.out)⟩, ⟨by repeat (first | (with_reducible first | exact HB.out | apply below_alloc | apply pw_below_drewN | apply below_drew1 | refine below_set ?_ (IsS52.ge HI247.out)) | exact HB.out)⟩⟩
                            · replace c26 := Bool.eq_false_iff.mpr c26
                              subst c26
                              have H1 : ((pack_Reader_Num.f x248000_3 x248001_3 ((rd_T32 l0 x10_3).f1)).bind fun bt256 => (fairleadlaw02_PackCut.l0 k3 l0 t235 (wrap64 (x10_3 + 1)) bt256.2.1 bt256.2.2)) = some r := by rw [if_neg (show ¬ (false = true) by decide)] at H; exact H
                              clear H
                              have H := H1
                              clear H1
                              replace H := Option.bind_eq_some_iff.mp H
                              obtain ⟨⟨t256, t257, t258⟩, A290, H⟩ := H
                              replace H : (fairleadlaw02_PackCut.l0 k3 l0 t235 (wrap64 (x10_3 + 1)) t257 t258) = some r := H
                              have A29 := Aside0.mk A290
                              clear A290
                              have H' := Aside0.mk H
                              clear H
                              have p251 : 0 ≤ (x10_3 : Int) := of_decide_eq_true (by first | (with_reducible assumption) | assumption)
                              have q251 : x10_3 < (l0.length : Int) := of_decide_eq_true (by first | (with_reducible assumption) | assumption)
                              obtain ⟨ad251, e251, hx251_0, hx251_1, hx251_2, hx251_3⟩ := at_T32 HR0.out x10_3 p251 q251
                              (try rw [← Nbq25.out] at hx251_2)
                              cases e251
                              replace hx251_0 := (HB.out.cell (World.block_lt_of_cell? w _ hx251_0)).trans hx251_0
                              replace hx251_1 := (HB.out.cell (World.block_lt_of_cell? w _ hx251_1)).trans hx251_1
                              replace hx251_2 := (HB.out.cell (World.block_lt_of_cell? w _ hx251_2)).trans hx251_2
                              replace hx251_3 := (HB.out.cell (World.block_lt_of_cell? w _ hx251_3)).trans hx251_3
                              replace p251 := eq_true p251
                              replace q251 := eq_true q251
                              have p255 : 0 ≤ (x10_3 : Int) := of_decide_eq_true (by first | (with_reducible assumption) | assumption)
                              have q255 : x10_3 < (l0.length : Int) := of_decide_eq_true (by first | (with_reducible assumption) | assumption)
                              obtain ⟨ad255, e255, hx255_0, hx255_1, hx255_2, hx255_3⟩ := at_T32 HR0.out x10_3 p255 q255
                              (try rw [← Nbq25.out] at hx255_2)
                              obtain rfl : ad251 = ad255 := (by injection e255)
                              replace hx255_0 := (HB.out.cell (World.block_lt_of_cell? w _ hx255_0)).trans hx255_0
                              replace hx255_1 := (HB.out.cell (World.block_lt_of_cell? w _ hx255_1)).trans hx255_1
                              replace hx255_2 := (HB.out.cell (World.block_lt_of_cell? w _ hx255_2)).trans hx255_2
                              replace hx255_3 := (HB.out.cell (World.block_lt_of_cell? w _ hx255_3)).trans hx255_3
                              replace p255 := eq_true p255
                              replace q255 := eq_true q255
                              go_wp2_with (first | ((with_reducible refine gate_callee (f := 17) rfl ?_); refine goesL_ (some 62) rfl rfl Try.func17 (by kernel_rfl) rfl #[.pointer (some ⟨g247, 0, none⟩), .int .i64 ((rd_T32 l0 x10_3).f1)] rfl (by (try simp only [List.map_toArray, List.map_cons, List.map_nil]); first | done | rfl | (simp only [List.length_drop, List.length_take]; rfl)) ?_; (with_reducible refine (pack_Reader_Num.calls g247 x248000_3 x248001_3 ((rd_T32 l0 x10_3).f1) t256 t257 t258 w _ ?side1 ?side2 A29.out).mono ?_); (case side1 => repeat (first | (with_reducible first | exact HI247.out | apply IsS52.alloc | apply IsS52.drewN | apply IsS52.drew | apply IsS52.set_0 | apply IsS52.set_1) | exact HI247.out)); (case side2 => repeat (first | (with_reducible first | exact HB.out | apply below_alloc | apply pw_below_drewN | apply below_drew1 | refine below_set ?_ (IsS52.ge HI247.out)) | exact HB.out)); rintro e w30 ⟨rfl, hi, hb, hk⟩; refine ⟨_, rfl, ?_⟩; have n0_ := Aside0.mk (hb); have n1_ := Aside0.mk (hi); clear HB; clear HI247; have HB := n0_; have HI247 := n1_; clear n0_ n1_; (try clear hb); (try clear hb2); (try clear hk); (try clear hi)))
                              go_roundg k3
                              case measure => have := HJ4.out; have := HJ9.out; have := HK3.out; omega
                              case rel => exact ⟨(wrap64 (x10_3 + 1)), (t257), (t258), (by first | rfl | (simp; done) | (simp [*]; done)), H', ⟨by have := HJ4.out; have := HJ9.out; have := HK3.out; omega⟩, ⟨by repeat (first | (with_reducible first | exact HI247.out | apply IsS52.alloc | apply IsS52.drewN | apply IsS52.drew | apply IsS52.set_0 | apply IsS52.set_1) | exact HI247.out)⟩, ⟨by repeat (first | (with_reducible first | exact HB.out | apply below_alloc | apply pw_below_drewN | apply below_drew1 | refine below_set ?_ (IsS52.ge HI247.out)) | exact HB.out)⟩⟩
                          · rw [if_neg c24] at H
                            exact absurd H (by simp)
                        · rw [if_neg c23] at H
                          have c23b0 : decide (x10_3 < (l0.length : Int)) = false := decide_eq_false c23
                          clear c23
                          by_cases c31 : t235 = true
                          · subst c31
                            have H1 : ((pack_Reader_End.f x248000_3 x248001_3).bind fun bt248 => (some (bt248.1 == 2))) = some r := by rw [if_pos rfl] at H; exact H
                            clear H
                            have H := H1
                            clear H1
                            replace H := Option.bind_eq_some_iff.mp H
                            obtain ⟨⟨t248, t249, t250⟩, A320, H⟩ := H
                            replace H : (some (t248 == 2)) = some r := H
                            have A32 := Aside0.mk A320
                            clear A320
                            obtain rfl := Option.some.inj H
                            go_wp2_with (first | (go_at_call 19; (with_reducible refine (pack_Reader_End.calls g247 x248000_3 x248001_3 t248 t249 t250 w _ ?side1 ?side2 A32.out).mono ?_); (case side1 => repeat (first | (with_reducible first | exact HI247.out | apply IsS52.alloc | apply IsS52.drewN | apply IsS52.drew | apply IsS52.set_0 | apply IsS52.set_1) | exact HI247.out)); (case side2 => repeat (first | (with_reducible first | exact HB.out | apply below_alloc | apply pw_below_drewN | apply below_drew1 | refine below_set ?_ (IsS52.ge HI247.out)) | exact HB.out)); rintro e w33 ⟨rfl, hi, hb, hk⟩; have n0_ := Aside0.mk (hb); have n1_ := Aside0.mk (hi); clear HB; clear HI247; have HB := n0_; have HI247 := n1_; clear n0_ n1_; (try clear hb); (try clear hb2); (try clear hk); (try clear hi)))
                            go_ret
                            exact ⟨by first | rfl | (simp [errW_none, errW_some] <;> rfl) | (simp only [← hji16]; first | rfl | (simp [errW_none, errW_some] <;> rfl)) | (simp [*, errW_none, errW_some] <;> rfl), by repeat (first | (with_reducible first | exact HB.out | apply below_alloc | apply pw_below_drewN | apply below_drew1 | refine below_set ?_ (IsS52.ge HI247.out)) | exact HB.out)⟩
                          · replace c31 := Bool.eq_false_iff.mpr c31
                            subst c31
                            have H1 : (some false) = some r := by rw [if_neg (show ¬ (false = true) by decide)] at H; exact H
                            clear H
                            have H := H1
                            clear H1
                            obtain rfl := Option.some.inj H
                            go_wp2
                            go_ret
                            exact ⟨by first | rfl | (simp [errW_none, errW_some] <;> rfl) | (simp only [← hji16]; first | rfl | (simp [errW_none, errW_some] <;> rfl)) | (simp [*, errW_none, errW_some] <;> rfl), by repeat (first | (with_reducible first | exact HB.out | apply below_alloc | apply pw_below_drewN | apply below_drew1 | refine below_set ?_ (IsS52.ge HI247.out)) | exact HB.out)⟩
                  · rw [if_neg c18] at H
                    exact absurd H (by simp)
                · rw [if_neg c17] at H
                  exact absurd H (by simp)

/-- What is to be shown of fairleadlaw02_PackCut, without Go and memory. -/
def fairleadlaw02_PackCut.Pure : Prop := ∀ (l0 : List (S32)) (a1 : Int), (l0.length ≤ 9223372036854775807 ∧ ∀ x ∈ l0, (0 ≤ x.f0 ∧ x.f0 ≤ 18446744073709551615) ∧ ((-9223372036854775808) ≤ x.f1 ∧ x.f1 ≤ 9223372036854775807) ∧ (True) ∧ (x.f3.size ≤ 9223372036854775807)) → ((-9223372036854775808) ≤ a1 ∧ a1 ≤ 9223372036854775807) → ∃ k, fairleadlaw02_PackCut.f k l0 a1 = some true

end Go.Proofs.Ytcomfhfednieoaa.M
