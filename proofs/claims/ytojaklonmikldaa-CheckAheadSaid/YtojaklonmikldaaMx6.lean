-- Laid by a program (wip/tools/myprint.py) out of the loaded program's own print: for each Go function a Lean function and the proof of its contract.
import Derived.Test.YtojaklonmikldaaMx0
import Derived.Test.YtojaklonmikldaaMx3
namespace Go.Proofs.Ytojaklonmikldaa.M
open Go.RowKit Go.Proofs.YtojaklonmikldaaW.PrintWords Go.Proofs.YtojaklonmikldaaW.PrintLast Go.Proofs.YtojaklonmikldaaW.PrintMore
attribute [local go_sem] max2_int min2_int max_two min_two max_three min_three max_four min_four   -- for this text's walks alone
set_option linter.unusedVariables false
set_option linter.unusedSimpArgs false

/-! ### fairleadlaw05_CheckSpoilt: function 6 -/
mutual
def fairleadlaw05_CheckSpoilt.j0 : Nat → List (S32) → Int → Bool → Bool → Bool → Option (Bool)
  | 0, _, _, _, _, _ => none
  | k + 1, x0, x1, x2, x7, x26 => if x26 = true then (some x7) else (if (x0.length : Int) = 0 then (none) else ((some (([] : List (S32)) : List (S32))).bind fun y169 => (if y169.length + x0.length < 17592186044416 then ((some (y169 ++ x0 : List (S32))).bind fun y172 => (if 0 ≤ (Int.tmod x1 (x0.length : Int)) then (if (Int.tmod x1 (x0.length : Int)) < (y172.length : Int) then ((some (y172.set ((Int.tmod x1 (x0.length : Int)) : Int).toNat (⟨255, 0, 0, 0⟩ : S32) : List (S32))).bind fun y175 => (if x2 = true then (fairleadlaw05_CheckSpoilt.j1 k x0 (Int.tmod x1 (x0.length : Int)) x7 (y175.set ((Int.tmod x1 (x0.length : Int)) : Int).toNat (⟨5, 0, 0, 4294967295⟩ : S32)) 14) else (fairleadlaw05_CheckSpoilt.j1 k x0 (Int.tmod x1 (x0.length : Int)) x7 y175 11))) else (none)) else (none))) else (none))))
def fairleadlaw05_CheckSpoilt.j1 : Nat → List (S32) → Int → Bool → List (S32) → Int → Option (Bool)
  | 0, _, _, _, _, _ => none
  | k + 1, x0, x1, x7, x8, x9 => (check_Check.f k x8).bind fun bt177 => ((check_Check.f k x0).bind fun bt179 => (if bt179.1 = 0 then (if x7 = true then (if bt177.1 = x9 then (some (bt177.2 == x1)) else (some false)) else (some false)) else (if bt179.2 < x1 then (if x7 = true then (if bt177.1 = bt179.1 then (some (bt177.2 == bt179.2)) else (some false)) else (some false)) else (if x7 = true then (if bt177.1 = x9 then (some (bt177.2 == x1)) else (some false)) else (some false)))))
end
def fairleadlaw05_CheckSpoilt.f (k : Nat) (l0 : List (S32)) (a1 : Int) (a2 : Bool) : Option (Bool) := (fairleadlaw05_awake.f k).bind fun t168 => (if a1 < 0 then (fairleadlaw05_CheckSpoilt.j0 k l0 a1 a2 t168 true) else (if (l0.length : Int) = 0 then (fairleadlaw05_CheckSpoilt.j0 k l0 a1 a2 t168 true) else (fairleadlaw05_CheckSpoilt.j0 k l0 a1 a2 t168 (decide ((l0.length : Int) > 4096)))))
theorem fairleadlaw05_CheckSpoilt.mono_l : ∀ k, (∀ y0 y1 y2 y3 y4, LeO (fairleadlaw05_CheckSpoilt.j0 k y0 y1 y2 y3 y4) (fairleadlaw05_CheckSpoilt.j0 (k + 1) y0 y1 y2 y3 y4)) ∧ (∀ y0 y1 y2 y3 y4, LeO (fairleadlaw05_CheckSpoilt.j1 k y0 y1 y2 y3 y4) (fairleadlaw05_CheckSpoilt.j1 (k + 1) y0 y1 y2 y3 y4))
  | 0 => ⟨fun _ _ _ _ _ r h => by simp [fairleadlaw05_CheckSpoilt.j0] at h, fun _ _ _ _ _ r h => by simp [fairleadlaw05_CheckSpoilt.j1] at h⟩
  | k + 1 => by
    obtain ⟨ih0, ih1⟩ := fairleadlaw05_CheckSpoilt.mono_l k
    refine ⟨?_, ?_⟩
    · intro y0 y1 y2 y3 y4
      unfold fairleadlaw05_CheckSpoilt.j0
      repeat' first
      | (with_reducible exact ih0 _ _ _ _ _)
      | (with_reducible exact ih1 _ _ _ _ _)
      | (with_reducible exact check_Check.mono _ _)
      | (with_reducible exact fairleadlaw05_awake.mono _)
      | (with_reducible exact LeO.refl _)
      | (with_reducible exact LeO.none _)
      | (with_reducible refine LeO.ite ?_ ?_)
      | (with_reducible refine LeO.bind ?_ (fun _ => ?_))
      | exact ih0 _ _ _ _ _
      | exact ih1 _ _ _ _ _
      | exact check_Check.mono _ _
      | exact fairleadlaw05_awake.mono _
      | exact LeO.none _
      | refine LeO.ite ?_ ?_
      | refine LeO.bind ?_ (fun _ => ?_)
    · intro y0 y1 y2 y3 y4
      unfold fairleadlaw05_CheckSpoilt.j1
      repeat' first
      | (with_reducible exact ih0 _ _ _ _ _)
      | (with_reducible exact ih1 _ _ _ _ _)
      | (with_reducible exact check_Check.mono _ _)
      | (with_reducible exact fairleadlaw05_awake.mono _)
      | (with_reducible exact LeO.refl _)
      | (with_reducible exact LeO.none _)
      | (with_reducible refine LeO.ite ?_ ?_)
      | (with_reducible refine LeO.bind ?_ (fun _ => ?_))
      | exact ih0 _ _ _ _ _
      | exact ih1 _ _ _ _ _
      | exact check_Check.mono _ _
      | exact fairleadlaw05_awake.mono _
      | exact LeO.none _
      | refine LeO.ite ?_ ?_
      | refine LeO.bind ?_ (fun _ => ?_)
theorem fairleadlaw05_CheckSpoilt.mono : ∀ a0 a1 a2 k, LeO (fairleadlaw05_CheckSpoilt.f k a0 a1 a2) (fairleadlaw05_CheckSpoilt.f (k + 1) a0 a1 a2) := by
  intro a0 a1 a2 k
  obtain ⟨ih0, ih1⟩ := fairleadlaw05_CheckSpoilt.mono_l k
  unfold fairleadlaw05_CheckSpoilt.f
  repeat' first
      | (with_reducible exact ih0 _ _ _ _ _)
      | (with_reducible exact ih1 _ _ _ _ _)
      | (with_reducible exact check_Check.mono _ _)
      | (with_reducible exact fairleadlaw05_awake.mono _)
      | (with_reducible exact LeO.refl _)
      | (with_reducible exact LeO.none _)
      | (with_reducible refine LeO.ite ?_ ?_)
      | (with_reducible refine LeO.bind ?_ (fun _ => ?_))
      | exact ih0 _ _ _ _ _
      | exact ih1 _ _ _ _ _
      | exact check_Check.mono _ _
      | exact fairleadlaw05_awake.mono _
      | exact LeO.none _
      | refine LeO.ite ?_ ?_
      | refine LeO.bind ?_ (fun _ => ?_)
set_option maxHeartbeats 8000000 in
set_option maxRecDepth 100000 in
theorem fairleadlaw05_CheckSpoilt.calls (k : Nat) (A0 : Option Addr) (c0 : Nat) (l0 : List (S32)) (a1 : Int) (a2 : Bool) (r : Bool) (w : World) (hr0 : Kd.C k32 w A0 l0.length l0) (hc0 : l0.length ≤ c0) (h : fairleadlaw05_CheckSpoilt.f k l0 a1 a2 = some r) :
    Calls Try.prog 6 #[.slice A0 l0.length c0, .int .i64 a1, .bool a2] w fun e w' => e = .returned (.bool r) ∧ Below w.heap.size w w' := by
  have hu32 := Try.underlying32
  have HR0 := Aside0.mk hr0
  have HC0 := Aside0.mk hc0
  clear hr0 hc0
  have HB := Aside0.mk (Below.refl w.heap.size w)
  have H : ((fairleadlaw05_awake.f k).bind fun t168 => (if a1 < 0 then (fairleadlaw05_CheckSpoilt.j0 k l0 a1 a2 t168 true) else (if (l0.length : Int) = 0 then (fairleadlaw05_CheckSpoilt.j0 k l0 a1 a2 t168 true) else (fairleadlaw05_CheckSpoilt.j0 k l0 a1 a2 t168 (decide ((l0.length : Int) > 4096)))))) = some r := h
  clear h
  replace H := Option.bind_eq_some_iff.mp H
  obtain ⟨t168, A40, H⟩ := H
  replace H : (if a1 < 0 then (fairleadlaw05_CheckSpoilt.j0 k l0 a1 a2 t168 true) else (if (l0.length : Int) = 0 then (fairleadlaw05_CheckSpoilt.j0 k l0 a1 a2 t168 true) else (fairleadlaw05_CheckSpoilt.j0 k l0 a1 a2 t168 (decide ((l0.length : Int) > 4096))))) = some r := H
  have A4 := Aside0.mk A40
  clear A40
  have HC5 := Aside0.mk H
  clear H
  go_enter Try.func6, Try.ntmps6
  go_upto_region 2 with (first | ((with_reducible refine gate_callee (f := 9) rfl ?_); refine goesL_ (some 14) rfl rfl Try.func9 (by kernel_rfl) rfl #[] rfl (by (try simp only [List.map_toArray, List.map_cons, List.map_nil]); first | done | rfl | (simp only [List.length_drop, List.length_take]; rfl)) ?_; (with_reducible refine (fairleadlaw05_awake.calls k  t168 _ A4.out).mono ?_); rintro e w6 ⟨rfl, hb⟩; refine ⟨_, rfl, ?_⟩; have n0_ := Aside0.mk (below_step (by repeat (first | (with_reducible first | exact HB.out | apply below_alloc | apply pw_below_drewN | apply below_drew1) | exact HB.out)) hb); clear HB; have HB := n0_; clear n0_; (try clear hb); (try clear hb2); (try clear hk); (try clear hi)))
  (try simp only [Act.put, List.setIfInBounds_toArray, List.set_cons_zero, List.set_cons_succ])
  go_cut [26] (fun v26 wc => ∃ (kq : Nat) (x26_4 : Bool), v26 = .bool x26_4 ∧ Aside0 (fairleadlaw05_CheckSpoilt.j0 kq l0 a1 a2 t168 x26_4 = some r) ∧ Aside0 (kq ≤ k) ∧ Aside0 (Below w.heap.size w wc))
  case first =>
    have H := HC5.out
    clear HC5
    by_cases c7 : a1 < 0
    · rw [if_pos c7] at H
      have c7b0 : decide (a1 < 0) = true := decide_eq_true c7
      clear c7
      (first | rw [c7b0] | (simp only [i64_w, i32_w]; rw [c7b0]) | skip)
      have H' := Aside0.mk H
      clear H
      go_wp2
      go_meet
      case rel => exact ⟨_, (true), (by first | rfl | (simp; done) | (simp [*]; done)), H', ⟨by first | omega | exact Nat.le_refl _⟩, ⟨by repeat (first | (with_reducible first | exact HB.out | apply below_alloc | apply pw_below_drewN | apply below_drew1) | exact HB.out)⟩⟩
    · rw [if_neg c7] at H
      have c7b0 : decide (a1 < 0) = false := decide_eq_false c7
      clear c7
      (first | rw [c7b0] | (simp only [i64_w, i32_w]; rw [c7b0]) | skip)
      by_cases c8 : (l0.length : Int) = 0
      · rw [if_pos c8] at H
        have c8b0 : ((l0.length : Int) == 0) = true := beq_iff_eq.mpr c8
        have c8b1 : ((l0.length : Int) != 0) = false := bne_eq_false_iff_eq.mpr c8
        clear c8
        have H' := Aside0.mk H
        clear H
        go_wp2
        go_meet
        case rel => exact ⟨_, (true), (by first | rfl | (simp; done) | (simp [*]; done)), H', ⟨by first | omega | exact Nat.le_refl _⟩, ⟨by repeat (first | (with_reducible first | exact HB.out | apply below_alloc | apply pw_below_drewN | apply below_drew1) | exact HB.out)⟩⟩
      · rw [if_neg c8] at H
        have c8b0 : ((l0.length : Int) == 0) = false := beq_eq_false_iff_ne.mpr c8
        have c8b1 : ((l0.length : Int) != 0) = true := bne_iff_ne.mpr c8
        have c8b2 : ¬ (l0 = []) := fun h_ => c8 (by rw [h_]; rfl)
        have H' := Aside0.mk H
        clear H
        go_wp2
        go_meet
        case rel => exact ⟨_, (decide ((l0.length : Int) > 4096)), (by first | rfl | (simp; done) | (simp [*]; done)), H', ⟨by first | omega | exact Nat.le_refl _⟩, ⟨by repeat (first | (with_reducible first | exact HB.out | apply below_alloc | apply pw_below_drewN | apply below_drew1) | exact HB.out)⟩⟩
  case rest =>
    clear HC5
    try clear p2
    try clear c6
    try clear c7
    try clear c7b0
    try clear c8
    try clear c8b0
    try clear c8b1
    try clear c8b2
    obtain ⟨kq, x26_4, rfl, HA, HJ4, HB⟩ := hcut
    cases kq with
    | zero => exact absurd HA.out (by simp [fairleadlaw05_CheckSpoilt.j0])
    | succ kj4 =>
      have H := HA.out
      clear HA
      simp only [fairleadlaw05_CheckSpoilt.j0] at H
      by_cases c9 : x26_4 = true
      · subst c9
        have H1 : (some t168) = some r := by rw [if_pos rfl] at H; exact H
        clear H
        have H := H1
        clear H1
        obtain rfl := Option.some.inj H
        go_wp2
        go_ret
        exact ⟨by first | rfl | (simp [errW_none, errW_some] <;> rfl) | (simp [*, errW_none, errW_some] <;> rfl), by repeat (first | (with_reducible first | exact HB.out | apply below_alloc | apply pw_below_drewN | apply below_drew1) | exact HB.out)⟩
      · replace c9 := Bool.eq_false_iff.mpr c9
        subst c9
        have H1 : (if (l0.length : Int) = 0 then (none) else ((some (([] : List (S32)) : List (S32))).bind fun y169 => (if y169.length + l0.length < 17592186044416 then ((some (y169 ++ l0 : List (S32))).bind fun y172 => (if 0 ≤ (Int.tmod a1 (l0.length : Int)) then (if (Int.tmod a1 (l0.length : Int)) < (y172.length : Int) then ((some (y172.set ((Int.tmod a1 (l0.length : Int)) : Int).toNat (⟨255, 0, 0, 0⟩ : S32) : List (S32))).bind fun y175 => (if a2 = true then (fairleadlaw05_CheckSpoilt.j1 kj4 l0 (Int.tmod a1 (l0.length : Int)) t168 (y175.set ((Int.tmod a1 (l0.length : Int)) : Int).toNat (⟨5, 0, 0, 4294967295⟩ : S32)) 14) else (fairleadlaw05_CheckSpoilt.j1 kj4 l0 (Int.tmod a1 (l0.length : Int)) t168 y175 11))) else (none)) else (none))) else (none)))) = some r := by rw [if_neg (show ¬ (false = true) by decide)] at H; exact H
        clear H
        have H := H1
        clear H1
        by_cases c10 : (l0.length : Int) = 0
        · rw [if_pos c10] at H
          exact absurd H (by simp)
        · rw [if_neg c10] at H
          have c10b0 : ((l0.length : Int) == 0) = false := beq_eq_false_iff_ne.mpr c10
          have c10b1 : ((l0.length : Int) != 0) = true := bne_iff_ne.mpr c10
          have c10b2 : ¬ (l0 = []) := fun h_ => c10 (by rw [h_]; rfl)
          obtain ⟨y169, hy169⟩ : ∃ y_ : List (S32), y_ = (([] : List (S32))) := ⟨_, rfl⟩
          replace H : (if y169.length + l0.length < 17592186044416 then ((some (y169 ++ l0 : List (S32))).bind fun y172 => (if 0 ≤ (Int.tmod a1 (l0.length : Int)) then (if (Int.tmod a1 (l0.length : Int)) < (y172.length : Int) then ((some (y172.set ((Int.tmod a1 (l0.length : Int)) : Int).toNat (⟨255, 0, 0, 0⟩ : S32) : List (S32))).bind fun y175 => (if a2 = true then (fairleadlaw05_CheckSpoilt.j1 kj4 l0 (Int.tmod a1 (l0.length : Int)) t168 (y175.set ((Int.tmod a1 (l0.length : Int)) : Int).toNat (⟨5, 0, 0, 4294967295⟩ : S32)) 14) else (fairleadlaw05_CheckSpoilt.j1 kj4 l0 (Int.tmod a1 (l0.length : Int)) t168 y175 11))) else (none)) else (none))) else (none)) = some r := by first | (rw [hy169]; with_reducible exact H) | (have H2_ := (Option.bind_some _ _).symm.trans H; rw [hy169]; with_reducible exact H2_) | (have H2_ := (Option.bind_some _ _).symm.trans H; with_reducible exact H2_) | with_reducible exact H | (rw [hy169]; exact H) | exact H
          have Ny169 := Aside0.mk hy169
          clear hy169
          by_cases c11 : y169.length + l0.length < 17592186044416
          · rw [if_pos c11] at H
            have LMc11 := Aside0.mk c11
            clear c11
            obtain ⟨y172, hy172⟩ : ∃ y_ : List (S32), y_ = (y169 ++ l0) := ⟨_, rfl⟩
            replace H : (if 0 ≤ (Int.tmod a1 (l0.length : Int)) then (if (Int.tmod a1 (l0.length : Int)) < (y172.length : Int) then ((some (y172.set ((Int.tmod a1 (l0.length : Int)) : Int).toNat (⟨255, 0, 0, 0⟩ : S32) : List (S32))).bind fun y175 => (if a2 = true then (fairleadlaw05_CheckSpoilt.j1 kj4 l0 (Int.tmod a1 (l0.length : Int)) t168 (y175.set ((Int.tmod a1 (l0.length : Int)) : Int).toNat (⟨5, 0, 0, 4294967295⟩ : S32)) 14) else (fairleadlaw05_CheckSpoilt.j1 kj4 l0 (Int.tmod a1 (l0.length : Int)) t168 y175 11))) else (none)) else (none)) = some r := by first | (rw [hy172]; with_reducible exact H) | (have H2_ := (Option.bind_some _ _).symm.trans H; rw [hy172]; with_reducible exact H2_) | (have H2_ := (Option.bind_some _ _).symm.trans H; with_reducible exact H2_) | with_reducible exact H | (rw [hy172]; exact H) | exact H
            have Ny172 := Aside0.mk hy172
            clear hy172
            obtain ⟨ji12, hji12⟩ : ∃ j_ : Int, (Int.tmod a1 (l0.length : Int)) = j_ := ⟨_, rfl⟩
            replace H : (if 0 ≤ (ji12) then (if (ji12) < (y172.length : Int) then ((some (y172.set ((ji12) : Int).toNat (⟨255, 0, 0, 0⟩ : S32) : List (S32))).bind fun y175 => (if a2 = true then (fairleadlaw05_CheckSpoilt.j1 kj4 l0 ji12 t168 (y175.set ((ji12) : Int).toNat (⟨5, 0, 0, 4294967295⟩ : S32)) 14) else (fairleadlaw05_CheckSpoilt.j1 kj4 l0 ji12 t168 y175 11))) else (none)) else (none)) = some r := by first | (rw [hji12] at H; exact H) | (simp only [hji12] at H ⊢; exact H)
            by_cases c13 : 0 ≤ (ji12)
            · rw [if_pos c13] at H
              have c13b0 : decide (0 ≤ (ji12)) = true := decide_eq_true c13
              clear c13
              by_cases c14 : (ji12) < (y172.length : Int)
              · rw [if_pos c14] at H
                have c14b0 : decide ((ji12) < (y172.length : Int)) = true := decide_eq_true c14
                clear c14
                obtain ⟨y175, hy175⟩ : ∃ y_ : List (S32), y_ = (y172.set ((ji12) : Int).toNat (⟨255, 0, 0, 0⟩ : S32)) := ⟨_, rfl⟩
                replace H : (if a2 = true then (fairleadlaw05_CheckSpoilt.j1 kj4 l0 ji12 t168 (y175.set ((ji12) : Int).toNat (⟨5, 0, 0, 4294967295⟩ : S32)) 14) else (fairleadlaw05_CheckSpoilt.j1 kj4 l0 ji12 t168 y175 11)) = some r := by first | (rw [hy175]; with_reducible exact H) | (have H2_ := (Option.bind_some _ _).symm.trans H; rw [hy175]; with_reducible exact H2_) | (have H2_ := (Option.bind_some _ _).symm.trans H; with_reducible exact H2_) | with_reducible exact H | (rw [hy175]; exact H) | exact H
                have Ny175 := Aside0.mk hy175
                clear hy175
                have HC16 := Aside0.mk H
                clear H
                go_upto_if 39 with (first | ((with_reducible refine gate_dst (N := 32) rfl ?_); (try (refine gate_guard (by rfl) ?_; dsimp only)); refine Kd.R_lit k32 _ 32 ?hg (N := 32) ?hd (xs := ([] : List (S32))) (inner := []) (ok := fun _ => True) (okp := fun _ => True) ?hr ?hp (fun _ hk => hk) trivial (Below.refl _ _) (Nat.le_refl _) (by simp) ?_; (case hd => rfl); (case hg => rfl); (case hr => first | (go_simp; done) | (go_simp; rfl)); (case hp => exact (Reps.none _ _)); intro v170 w17 ho18 hb hg_ hnew_; clear hg_ hnew_; (first | rw [← Ny169.out] at ho18 | (simp only [Int.reduceToNat] at ho18; rw [← Ny169.out] at ho18)); have n0_ := Aside0.mk (Kd.R_lower ho18 (below_size (by repeat (first | (with_reducible first | exact HB.out | apply below_alloc | apply pw_below_drewN | apply below_drew1) | exact HB.out)))); have n1_ := Aside0.mk (below_step (by repeat (first | (with_reducible first | exact HB.out | apply below_alloc | apply pw_below_drewN | apply below_drew1) | exact HB.out)) hb); clear HB; have HO171 := n0_; have HB := n1_; clear n0_ n1_; clear hb ho18) | ((with_reducible refine gate_builtin (b := .append) (xs := #[.tmp 32, .tmp 33]) rfl ?_); (try (refine gate_guard (by rfl) ?_; dsimp only)); at_builtin; refine Kd.R_append_rows k32 (w0 := w) w.heap.size rfl (.tmp 32) (.tmp 33) 22 32 (.agg #[(.int .u16 0), (.int .u8 0), (.int .u8 0), (.int .u32 0)]) 8 rfl Try.underlying22 info32 rfl (by decide) (by omega) v170 y169 l0 _ _ _ (fun _ => True) (fun _ => False) rfl rfl ?aO ?aR (fun _ _ h => h) (fun _ h => h.elim) ?aF ?aB ?aS ?aL ?_; (case aR => repeat (first | exact (Kd.C_below HR0.out HB.out) | (with_reducible refine Kd.C_alloc ?_ _) | (with_reducible refine Kd.C_drewN ?_ _) | (with_reducible refine Kd.C_drew ?_))); (case aB => exact (by repeat (first | (with_reducible first | exact HB.out | apply below_alloc | apply pw_below_drewN | apply below_drew1) | exact HB.out))); (case aF => exact (fun _ _ => trivial)); (case aO => exact (by (with_reducible repeat (first | apply Kd.R_alloc | apply Kd.R_drewN | apply Kd.R_drew)); exact HO171.out)); (case aS => exact (below_size (by repeat (first | (with_reducible first | exact HB.out | apply below_alloc | apply pw_below_drewN | apply below_drew1) | exact HB.out)))); (case aL => have := LMc11.out; omega); intro v173 w19 ho hb hg hat; rw [← Ny172.out] at ho; have n0_ := Aside0.mk (hb); have n1_ := Aside0.mk (ho); clear HB; clear HO171; have HB := n0_; have HO174 := n1_; clear n0_ n1_; clear ho hb hg hat; have p15 : 0 ≤ ((ji12) : Int) := of_decide_eq_true (by first | (with_reducible assumption) | assumption); have q15 : ((ji12) : Int) < ((y172.length : Int) : Int) := of_decide_eq_true (by first | (with_reducible assumption) | assumption); obtain ⟨go15, co15, eo15, gb15, gl15, cl15, HG15⟩ := Kd.R_form HO174.out (by omega); (first | cases eo15 | (injection eo15 with ea_ en_ ec_; (first | subst ea_ | (injection ea_ with ea_; subst ea_)); subst ec_; clear en_)); have GB15 := Aside0.mk gb15; have GG15 := Aside0.mk HG15; clear gb15 gl15 HG15; obtain ⟨ce15, hcl15, hM15, hcc15, hfr15⟩ := Kd.R_elem HO174.out z32 ((ji12) : Int) p15 q15; obtain rfl := k32_openM hM15; have hx15_0 : w19.cell? ⟨go15, ((ji12) : Int).toNat * 4, none⟩ = some (.int .u16 ((rd_T32 y172 (ji12)).f0)) := hcc15 0 _ rfl; have hx15_1 : w19.cell? ⟨go15, ((ji12) : Int).toNat * 4 + 1, none⟩ = some (.int .u8 ((rd_T32 y172 (ji12)).f1)) := hcc15 1 _ rfl; have hx15_2 : w19.cell? ⟨go15, ((ji12) : Int).toNat * 4 + 2, none⟩ = some (.int .u8 ((rd_T32 y172 (ji12)).f2)) := hcc15 2 _ rfl; have hx15_3 : w19.cell? ⟨go15, ((ji12) : Int).toNat * 4 + 3, none⟩ = some (.int .u32 ((rd_T32 y172 (ji12)).f3)) := hcc15 3 _ rfl; have hf15_0 : w19.frozen? ⟨go15, ((ji12) : Int).toNat * 4, none⟩ = false := hfr15 0; have hf15_1 : w19.frozen? ⟨go15, ((ji12) : Int).toNat * 4 + 1, none⟩ = false := hfr15 1; have hf15_2 : w19.frozen? ⟨go15, ((ji12) : Int).toNat * 4 + 2, none⟩ = false := hfr15 2; have hf15_3 : w19.frozen? ⟨go15, ((ji12) : Int).toNat * 4 + 3, none⟩ = false := hfr15 3; clear hcl15 hcc15 hfr15 hM15; replace p15 := eq_true p15; replace q15 := eq_true q15; have HX20 := Aside0.mk (show Kd.R k32 32 w19 w.heap.size (fun _ => True) (.slice (some ⟨go15, 0, none⟩) y172.length co15) y172 from (by (with_reducible repeat (first | apply Kd.R_alloc | apply Kd.R_drewN | apply Kd.R_drew)); exact HO174.out)); obtain ⟨ce20, hcl20, hM20, hcc20, hfr20⟩ := Kd.R_elem HX20.out z32 ((ji12) : Int) (of_decide_eq_true (by first | (with_reducible assumption) | assumption)) (by have h_ : ((ji12) : Int) < ((y172.length : Int) : Int) := of_decide_eq_true (by first | (with_reducible assumption) | assumption); first | exact h_ | (have e_ := (Kd.R_reads' HO174.out).1; omega) | simpa using h_); obtain rfl := k32_openM hM20; have HP20 := Kd.R_seg HX20.out ((ji12) : Int) (of_decide_eq_true (by first | (with_reducible assumption) | assumption)) (by have h_ : ((ji12) : Int) < ((y172.length : Int) : Int) := of_decide_eq_true (by first | (with_reducible assumption) | assumption); first | exact h_ | (have e_ := (Kd.R_reads' HO174.out).1; omega) | simpa using h_) (seg := [.int .u16 255, .int .u8 0, .int .u8 0, .int .u32 0]) (j := 0) hcl20 hcc20 (show 4 ≤ 4 from by decide) (x' := (⟨255, 0, 0, 0⟩ : S32)) (k32_mkM _ _ _ (⟨255, 0, 0, 0⟩ : S32) ) (fun _ hk => hk); have hx20_0 := hcc20 0 _ rfl; (try simp only [show (k32).sz = 4 from rfl, Nat.mul_one, Nat.add_zero] at hx20_0); have hf20_0 := hfr20 0; (try simp only [show (k32).sz = 4 from rfl, Nat.mul_one, Nat.add_zero] at hf20_0); have hx20_1 := hcc20 1 _ rfl; (try simp only [show (k32).sz = 4 from rfl, Nat.mul_one, Nat.add_zero] at hx20_1); have hf20_1 := hfr20 1; (try simp only [show (k32).sz = 4 from rfl, Nat.mul_one, Nat.add_zero] at hf20_1); have hx20_2 := hcc20 2 _ rfl; (try simp only [show (k32).sz = 4 from rfl, Nat.mul_one, Nat.add_zero] at hx20_2); have hf20_2 := hfr20 2; (try simp only [show (k32).sz = 4 from rfl, Nat.mul_one, Nat.add_zero] at hf20_2); have hx20_3 := hcc20 3 _ rfl; (try simp only [show (k32).sz = 4 from rfl, Nat.mul_one, Nat.add_zero] at hx20_3); have hf20_3 := hfr20 3; (try simp only [show (k32).sz = 4 from rfl, Nat.mul_one, Nat.add_zero] at hf20_3); clear hcl20 hcc20 hfr20 hM20) | ((with_reducible refine gate_store (t := 32) (p := 38) rfl ?_); refine store_event (t := 32) (p := 38) (v := ?vo_w21) (w1 := ((((w19.setCell ⟨go15, ((ji12) : Int).toNat * 4, none⟩ (.int .u16 255)).setCell ⟨go15, ((ji12) : Int).toNat * 4 + 1, none⟩ (.int .u8 0)).setCell ⟨go15, ((ji12) : Int).toNat * 4 + 2, none⟩ (.int .u8 0)).setCell ⟨go15, ((ji12) : Int).toNat * 4 + 3, none⟩ (.int .u32 0))) ?hg ?ho ?hn ?hr ?_; (case ho => rfl); (case hg => rfl); (case hn => rfl); (case hr => first | (go_simp; done) | (go_simp; rfl)); intro w21 hw; have hg : w19.grownBy w21 (some go15) := (by rw [hw]; exact HP20.2); have hp_ : Kd.R k32 32 w21 w.heap.size (fun _ => True) (.slice (some ⟨go15, 0, none⟩) y172.length co15) y175 := (by rw [hw, Ny175.out]; exact HP20.1); clear HP20; have n0_ := Aside0.mk (hp_); have n1_ := Aside0.mk ((by rw [hw]; exact below_set (below_set (below_set (below_set (HB.out) GB15.out) GB15.out) GB15.out) GB15.out : Below w.heap.size w w21)); clear HO174; clear HB; have HO174 := n0_; have HB := n1_; clear n0_ n1_; clear hg hw hp_))
                (try simp only [Act.put, List.setIfInBounds_toArray, List.set_cons_zero, List.set_cons_succ])
                go_cut [9] (fun v9 wc => ∃ (kq : Nat) (x8_15 : List (S32)) (x9_15 : Int), v9 = .int .i64 x9_15 ∧ Aside0 (fairleadlaw05_CheckSpoilt.j1 kq l0 ji12 t168 x8_15 x9_15 = some r) ∧ Aside0 (kq ≤ kj4) ∧ Aside0 (Kd.R k32 32 wc w.heap.size (fun _ => True) (.slice (some ⟨go15, 0, none⟩) y172.length co15) x8_15) ∧ Aside0 (Below w.heap.size w wc))
                case first =>
                  have H := HC16.out
                  clear HC16
                  by_cases c22 : a2 = true
                  · subst c22
                    have H1 : (fairleadlaw05_CheckSpoilt.j1 kj4 l0 ji12 t168 (y175.set ((ji12) : Int).toNat (⟨5, 0, 0, 4294967295⟩ : S32)) 14) = some r := by rw [if_pos rfl] at H; exact H
                    clear H
                    have H := H1
                    clear H1
                    obtain ⟨y176, hy176⟩ : ∃ y_ : List (S32), y_ = (y175.set ((ji12) : Int).toNat (⟨5, 0, 0, 4294967295⟩ : S32)) := ⟨_, rfl⟩
                    replace H : (fairleadlaw05_CheckSpoilt.j1 kj4 l0 ji12 t168 y176 14) = some r := by first | (rw [hy176]; with_reducible exact H) | (have H2_ := (Option.bind_some _ _).symm.trans H; rw [hy176]; with_reducible exact H2_) | (have H2_ := (Option.bind_some _ _).symm.trans H; with_reducible exact H2_) | with_reducible exact H | (rw [hy176]; exact H) | exact H
                    have Ny176 := Aside0.mk hy176
                    clear hy176
                    have H' := Aside0.mk H
                    clear H
                    have p23 : 0 ≤ ((ji12) : Int) := of_decide_eq_true (by first | (with_reducible assumption) | assumption)
                    have q23 : ((ji12) : Int) < ((y172.length : Int) : Int) := of_decide_eq_true (by first | (with_reducible assumption) | assumption)
                    obtain ⟨ce23, hcl23, hM23, hcc23, hfr23⟩ := Kd.R_elem HO174.out z32 ((ji12) : Int) p23 q23
                    obtain rfl := k32_openM hM23
                    have hx23_0 : w21.cell? ⟨go15, ((ji12) : Int).toNat * 4, none⟩ = some (.int .u16 ((rd_T32 y175 (ji12)).f0)) := hcc23 0 _ rfl
                    have hx23_1 : w21.cell? ⟨go15, ((ji12) : Int).toNat * 4 + 1, none⟩ = some (.int .u8 ((rd_T32 y175 (ji12)).f1)) := hcc23 1 _ rfl
                    have hx23_2 : w21.cell? ⟨go15, ((ji12) : Int).toNat * 4 + 2, none⟩ = some (.int .u8 ((rd_T32 y175 (ji12)).f2)) := hcc23 2 _ rfl
                    have hx23_3 : w21.cell? ⟨go15, ((ji12) : Int).toNat * 4 + 3, none⟩ = some (.int .u32 ((rd_T32 y175 (ji12)).f3)) := hcc23 3 _ rfl
                    have hf23_0 : w21.frozen? ⟨go15, ((ji12) : Int).toNat * 4, none⟩ = false := hfr23 0
                    have hf23_1 : w21.frozen? ⟨go15, ((ji12) : Int).toNat * 4 + 1, none⟩ = false := hfr23 1
                    have hf23_2 : w21.frozen? ⟨go15, ((ji12) : Int).toNat * 4 + 2, none⟩ = false := hfr23 2
                    have hf23_3 : w21.frozen? ⟨go15, ((ji12) : Int).toNat * 4 + 3, none⟩ = false := hfr23 3
                    clear hcl23 hcc23 hfr23 hM23
                    replace p23 := eq_true p23
                    replace q23 := eq_true q23
                    have HX24 := Aside0.mk (show Kd.R k32 32 w21 w.heap.size (fun _ => True) (.slice (some ⟨go15, 0, none⟩) y172.length co15) y175 from (by (with_reducible repeat (first | apply Kd.R_alloc | apply Kd.R_drewN | apply Kd.R_drew)); exact HO174.out))
                    obtain ⟨ce24, hcl24, hM24, hcc24, hfr24⟩ := Kd.R_elem HX24.out z32 ((ji12) : Int) (of_decide_eq_true (by first | (with_reducible assumption) | assumption)) (by have h_ : ((ji12) : Int) < ((y172.length : Int) : Int) := of_decide_eq_true (by first | (with_reducible assumption) | assumption); first | exact h_ | (have e_ := (Kd.R_reads' HO174.out).1; omega) | simpa using h_)
                    obtain rfl := k32_openM hM24
                    have HP24 := Kd.R_seg HX24.out ((ji12) : Int) (of_decide_eq_true (by first | (with_reducible assumption) | assumption)) (by have h_ : ((ji12) : Int) < ((y172.length : Int) : Int) := of_decide_eq_true (by first | (with_reducible assumption) | assumption); first | exact h_ | (have e_ := (Kd.R_reads' HO174.out).1; omega) | simpa using h_) (seg := [.int .u16 5, .int .u8 0, .int .u8 0, .int .u32 4294967295]) (j := 0) hcl24 hcc24 (show 4 ≤ 4 from by decide) (x' := (⟨5, 0, 0, 4294967295⟩ : S32)) (k32_mkM _ _ _ (⟨5, 0, 0, 4294967295⟩ : S32) ) (fun _ hk => hk)
                    have hx24_0 := hcc24 0 _ rfl
                    (try simp only [show (k32).sz = 4 from rfl, Nat.mul_one, Nat.add_zero] at hx24_0)
                    have hf24_0 := hfr24 0
                    (try simp only [show (k32).sz = 4 from rfl, Nat.mul_one, Nat.add_zero] at hf24_0)
                    have hx24_1 := hcc24 1 _ rfl
                    (try simp only [show (k32).sz = 4 from rfl, Nat.mul_one, Nat.add_zero] at hx24_1)
                    have hf24_1 := hfr24 1
                    (try simp only [show (k32).sz = 4 from rfl, Nat.mul_one, Nat.add_zero] at hf24_1)
                    have hx24_2 := hcc24 2 _ rfl
                    (try simp only [show (k32).sz = 4 from rfl, Nat.mul_one, Nat.add_zero] at hx24_2)
                    have hf24_2 := hfr24 2
                    (try simp only [show (k32).sz = 4 from rfl, Nat.mul_one, Nat.add_zero] at hf24_2)
                    have hx24_3 := hcc24 3 _ rfl
                    (try simp only [show (k32).sz = 4 from rfl, Nat.mul_one, Nat.add_zero] at hx24_3)
                    have hf24_3 := hfr24 3
                    (try simp only [show (k32).sz = 4 from rfl, Nat.mul_one, Nat.add_zero] at hf24_3)
                    clear hcl24 hcc24 hfr24 hM24
                    go_wp2_with (first | ((with_reducible refine gate_store (t := 32) (p := 43) rfl ?_); refine store_event (t := 32) (p := 43) (v := ?vo_w25) (w1 := ((((w21.setCell ⟨go15, ((ji12) : Int).toNat * 4, none⟩ (.int .u16 5)).setCell ⟨go15, ((ji12) : Int).toNat * 4 + 1, none⟩ (.int .u8 0)).setCell ⟨go15, ((ji12) : Int).toNat * 4 + 2, none⟩ (.int .u8 0)).setCell ⟨go15, ((ji12) : Int).toNat * 4 + 3, none⟩ (.int .u32 4294967295))) ?hg ?ho ?hn ?hr ?_; (case ho => rfl); (case hg => rfl); (case hn => rfl); (case hr => first | (go_simp; done) | (go_simp; rfl)); intro w25 hw; have hg : w21.grownBy w25 (some go15) := (by rw [hw]; exact HP24.2); have hp_ : Kd.R k32 32 w25 w.heap.size (fun _ => True) (.slice (some ⟨go15, 0, none⟩) y172.length co15) y176 := (by rw [hw, Ny176.out]; exact HP24.1); clear HP24; have n0_ := Aside0.mk (hp_); have n1_ := Aside0.mk ((by rw [hw]; exact below_set (below_set (below_set (below_set (HB.out) GB15.out) GB15.out) GB15.out) GB15.out : Below w.heap.size w w25)); clear HO174; clear HB; have HO174 := n0_; have HB := n1_; clear n0_ n1_; clear hg hw hp_))
                    go_meet
                    case rel => exact ⟨_, (y176), (14), (by first | rfl | (simp; done) | (simp [*]; done)), H', ⟨by have := HJ4.out; first | omega | exact Nat.le_refl _⟩, ⟨by (with_reducible repeat (first | apply Kd.R_alloc | apply Kd.R_drewN | apply Kd.R_drew)); exact HO174.out⟩, ⟨by repeat (first | (with_reducible first | exact HB.out | apply below_alloc | apply pw_below_drewN | apply below_drew1) | exact HB.out)⟩⟩
                  · replace c22 := Bool.eq_false_iff.mpr c22
                    subst c22
                    have H1 : (fairleadlaw05_CheckSpoilt.j1 kj4 l0 ji12 t168 y175 11) = some r := by rw [if_neg (show ¬ (false = true) by decide)] at H; exact H
                    clear H
                    have H := H1
                    clear H1
                    have H' := Aside0.mk H
                    clear H
                    go_wp2
                    go_meet
                    case rel => exact ⟨_, (y175), (11), (by first | rfl | (simp; done) | (simp [*]; done)), H', ⟨by have := HJ4.out; first | omega | exact Nat.le_refl _⟩, ⟨by (with_reducible repeat (first | apply Kd.R_alloc | apply Kd.R_drewN | apply Kd.R_drew)); exact HO174.out⟩, ⟨by repeat (first | (with_reducible first | exact HB.out | apply below_alloc | apply pw_below_drewN | apply below_drew1) | exact HB.out)⟩⟩
                case rest =>
                  clear HC16
                  try clear c1
                  try clear p1
                  try clear q1
                  try clear hx1
                  try clear c2
                  try clear p2
                  try clear q2
                  try clear hx2
                  try clear c6
                  try clear c7
                  try clear c7b0
                  try clear c8
                  try clear c8b0
                  try clear c8b1
                  try clear c8b2
                  try clear c9
                  try clear c10
                  try clear c10b0
                  try clear c10b1
                  try clear c10b2
                  try clear c11
                  try clear c13
                  try clear c13b0
                  try clear c14
                  try clear c14b0
                  try clear c15
                  try clear p15
                  try clear q15
                  try clear hx15
                  try clear hf15
                  try clear c20
                  try clear hx20
                  try clear hf20
                  try clear c22
                  try clear c23
                  try clear p23
                  try clear q23
                  try clear hx23
                  try clear hf23
                  try clear c24
                  try clear hx24
                  try clear hf24
                  try clear hx15_0
                  try clear hx15_1
                  try clear hx15_2
                  try clear hx15_3
                  try clear hx20_0
                  try clear hx20_1
                  try clear hx20_2
                  try clear hx20_3
                  try clear hx23_0
                  try clear hx23_1
                  try clear hx23_2
                  try clear hx23_3
                  try clear hx24_0
                  try clear hx24_1
                  try clear hx24_2
                  try clear hx24_3
                  try clear p15
                  try clear p2
                  try clear p23
                  try clear q15
                  try clear q23
                  obtain ⟨kq, x8_15, x9_15, rfl, HA, HJ15, HO_8, HB⟩ := hcut
                  have hl8_15 := (Kd.R_reads' HO_8.out).1
                  rw [hl8_15] at HO_8
                  (try simp only [hl8_15])
                  cases kq with
                  | zero => exact absurd HA.out (by simp [fairleadlaw05_CheckSpoilt.j1])
                  | succ kj15 =>
                    have H := HA.out
                    clear HA
                    simp only [fairleadlaw05_CheckSpoilt.j1] at H
                    replace H := Option.bind_eq_some_iff.mp H
                    obtain ⟨⟨t177, t178⟩, A260, H⟩ := H
                    replace H : ((check_Check.f kj15 l0).bind fun bt179 => (if bt179.1 = 0 then (if t168 = true then (if t177 = x9_15 then (some (t178 == ji12)) else (some false)) else (some false)) else (if bt179.2 < ji12 then (if t168 = true then (if t177 = bt179.1 then (some (t178 == bt179.2)) else (some false)) else (some false)) else (if t168 = true then (if t177 = x9_15 then (some (t178 == ji12)) else (some false)) else (some false))))) = some r := H
                    have A26 := Aside0.mk A260
                    clear A260
                    replace H := Option.bind_eq_some_iff.mp H
                    obtain ⟨⟨t179, t180⟩, A270, H⟩ := H
                    replace H : (if t179 = 0 then (if t168 = true then (if t177 = x9_15 then (some (t178 == ji12)) else (some false)) else (some false)) else (if t180 < ji12 then (if t168 = true then (if t177 = t179 then (some (t178 == t180)) else (some false)) else (some false)) else (if t168 = true then (if t177 = x9_15 then (some (t178 == ji12)) else (some false)) else (some false)))) = some r := H
                    have A27 := Aside0.mk A270
                    clear A270
                    by_cases c28 : t179 = 0
                    · rw [if_pos c28] at H
                      have c28b0 : (t179 == 0) = true := beq_iff_eq.mpr c28
                      have c28b1 : (t179 != 0) = false := bne_eq_false_iff_eq.mpr c28
                      clear c28
                      by_cases c29 : t168 = true
                      · subst c29
                        have H1 : (if t177 = x9_15 then (some (t178 == ji12)) else (some false)) = some r := by rw [if_pos rfl] at H; exact H
                        clear H
                        have H := H1
                        clear H1
                        by_cases c30 : t177 = x9_15
                        · rw [if_pos c30] at H
                          have c30b0 : (t177 == x9_15) = true := beq_iff_eq.mpr c30
                          have c30b1 : (t177 != x9_15) = false := bne_eq_false_iff_eq.mpr c30
                          clear c30
                          obtain rfl := Option.some.inj H
                          go_wp2_with (first | ((with_reducible refine gate_callee (f := 10) rfl ?_); refine goesL_ (some 46) rfl rfl Try.func10 (by kernel_rfl) rfl #[.slice (some ⟨go15, 0, none⟩) x8_15.length co15] rfl (by (try simp only [List.map_toArray, List.map_cons, List.map_nil]); first | done | rfl | (simp only [List.length_drop, List.length_take]; rfl)) ?_; (with_reducible refine (check_Check.calls kj15 _ _ x8_15 t177 t178 _ ?side1 ?side2 A26.out).mono ?_); (case side1 => repeat (first | exact (Kd.R_reads' HO_8.out).2.2 | (with_reducible refine Kd.C_alloc ?_ _) | (with_reducible refine Kd.C_drewN ?_ _) | (with_reducible refine Kd.C_drew ?_))); (case side2 => exact (Kd.R_reads' HO_8.out).2.1); rintro e w31 ⟨rfl, hb⟩; refine ⟨_, rfl, ?_⟩; have n0_ := Aside0.mk (Kd.R_below (by (with_reducible repeat (first | apply Kd.R_alloc | apply Kd.R_drewN | apply Kd.R_drew)); exact HO_8.out) hb); have n1_ := Aside0.mk (below_step (by repeat (first | (with_reducible first | exact HB.out | apply below_alloc | apply pw_below_drewN | apply below_drew1) | exact HB.out)) hb); clear HO_8; clear HB; have HO_8 := n0_; have HB := n1_; clear n0_ n1_; (try clear hb); (try clear hb2); (try clear hk); (try clear hi)) | ((with_reducible refine gate_callee (f := 10) rfl ?_); refine goesL_ (some 51) rfl rfl Try.func10 (by kernel_rfl) rfl #[.slice A0 l0.length c0] rfl (by (try simp only [List.map_toArray, List.map_cons, List.map_nil]); first | done | rfl | (simp only [List.length_drop, List.length_take]; rfl)) ?_; (with_reducible refine (check_Check.calls kj15 _ _ l0 t179 t180 _ ?side1 ?side2 A27.out).mono ?_); (case side1 => repeat (first | exact (Kd.C_below HR0.out HB.out) | (with_reducible refine Kd.C_alloc ?_ _) | (with_reducible refine Kd.C_drewN ?_ _) | (with_reducible refine Kd.C_drew ?_))); (case side2 => exact HC0.out); rintro e w32 ⟨rfl, hb⟩; refine ⟨_, rfl, ?_⟩; have n0_ := Aside0.mk (Kd.R_below (by (with_reducible repeat (first | apply Kd.R_alloc | apply Kd.R_drewN | apply Kd.R_drew)); exact HO_8.out) hb); have n1_ := Aside0.mk (below_step (by repeat (first | (with_reducible first | exact HB.out | apply below_alloc | apply pw_below_drewN | apply below_drew1) | exact HB.out)) hb); clear HO_8; clear HB; have HO_8 := n0_; have HB := n1_; clear n0_ n1_; (try clear hb); (try clear hb2); (try clear hk); (try clear hi)))
                          go_ret
                          exact ⟨by first | rfl | (simp [errW_none, errW_some] <;> rfl) | (simp only [← hji12]; first | rfl | (simp [errW_none, errW_some] <;> rfl)) | (simp [*, errW_none, errW_some] <;> rfl), by repeat (first | (with_reducible first | exact HB.out | apply below_alloc | apply pw_below_drewN | apply below_drew1) | exact HB.out)⟩
                        · rw [if_neg c30] at H
                          have c30b0 : (t177 == x9_15) = false := beq_eq_false_iff_ne.mpr c30
                          have c30b1 : (t177 != x9_15) = true := bne_iff_ne.mpr c30
                          obtain rfl := Option.some.inj H
                          go_wp2_with (first | ((with_reducible refine gate_callee (f := 10) rfl ?_); refine goesL_ (some 46) rfl rfl Try.func10 (by kernel_rfl) rfl #[.slice (some ⟨go15, 0, none⟩) x8_15.length co15] rfl (by (try simp only [List.map_toArray, List.map_cons, List.map_nil]); first | done | rfl | (simp only [List.length_drop, List.length_take]; rfl)) ?_; (with_reducible refine (check_Check.calls kj15 _ _ x8_15 t177 t178 _ ?side1 ?side2 A26.out).mono ?_); (case side1 => repeat (first | exact (Kd.R_reads' HO_8.out).2.2 | (with_reducible refine Kd.C_alloc ?_ _) | (with_reducible refine Kd.C_drewN ?_ _) | (with_reducible refine Kd.C_drew ?_))); (case side2 => exact (Kd.R_reads' HO_8.out).2.1); rintro e w33 ⟨rfl, hb⟩; refine ⟨_, rfl, ?_⟩; have n0_ := Aside0.mk (Kd.R_below (by (with_reducible repeat (first | apply Kd.R_alloc | apply Kd.R_drewN | apply Kd.R_drew)); exact HO_8.out) hb); have n1_ := Aside0.mk (below_step (by repeat (first | (with_reducible first | exact HB.out | apply below_alloc | apply pw_below_drewN | apply below_drew1) | exact HB.out)) hb); clear HO_8; clear HB; have HO_8 := n0_; have HB := n1_; clear n0_ n1_; (try clear hb); (try clear hb2); (try clear hk); (try clear hi)) | ((with_reducible refine gate_callee (f := 10) rfl ?_); refine goesL_ (some 51) rfl rfl Try.func10 (by kernel_rfl) rfl #[.slice A0 l0.length c0] rfl (by (try simp only [List.map_toArray, List.map_cons, List.map_nil]); first | done | rfl | (simp only [List.length_drop, List.length_take]; rfl)) ?_; (with_reducible refine (check_Check.calls kj15 _ _ l0 t179 t180 _ ?side1 ?side2 A27.out).mono ?_); (case side1 => repeat (first | exact (Kd.C_below HR0.out HB.out) | (with_reducible refine Kd.C_alloc ?_ _) | (with_reducible refine Kd.C_drewN ?_ _) | (with_reducible refine Kd.C_drew ?_))); (case side2 => exact HC0.out); rintro e w34 ⟨rfl, hb⟩; refine ⟨_, rfl, ?_⟩; have n0_ := Aside0.mk (Kd.R_below (by (with_reducible repeat (first | apply Kd.R_alloc | apply Kd.R_drewN | apply Kd.R_drew)); exact HO_8.out) hb); have n1_ := Aside0.mk (below_step (by repeat (first | (with_reducible first | exact HB.out | apply below_alloc | apply pw_below_drewN | apply below_drew1) | exact HB.out)) hb); clear HO_8; clear HB; have HO_8 := n0_; have HB := n1_; clear n0_ n1_; (try clear hb); (try clear hb2); (try clear hk); (try clear hi)))
                          go_ret
                          exact ⟨by first | rfl | (simp [errW_none, errW_some] <;> rfl) | (simp only [← hji12]; first | rfl | (simp [errW_none, errW_some] <;> rfl)) | (simp [*, errW_none, errW_some] <;> rfl), by repeat (first | (with_reducible first | exact HB.out | apply below_alloc | apply pw_below_drewN | apply below_drew1) | exact HB.out)⟩
                      · replace c29 := Bool.eq_false_iff.mpr c29
                        subst c29
                        have H1 : (some false) = some r := by rw [if_neg (show ¬ (false = true) by decide)] at H; exact H
                        clear H
                        have H := H1
                        clear H1
                        obtain rfl := Option.some.inj H
                        go_wp2_with (first | ((with_reducible refine gate_callee (f := 10) rfl ?_); refine goesL_ (some 46) rfl rfl Try.func10 (by kernel_rfl) rfl #[.slice (some ⟨go15, 0, none⟩) x8_15.length co15] rfl (by (try simp only [List.map_toArray, List.map_cons, List.map_nil]); first | done | rfl | (simp only [List.length_drop, List.length_take]; rfl)) ?_; (with_reducible refine (check_Check.calls kj15 _ _ x8_15 t177 t178 _ ?side1 ?side2 A26.out).mono ?_); (case side1 => repeat (first | exact (Kd.R_reads' HO_8.out).2.2 | (with_reducible refine Kd.C_alloc ?_ _) | (with_reducible refine Kd.C_drewN ?_ _) | (with_reducible refine Kd.C_drew ?_))); (case side2 => exact (Kd.R_reads' HO_8.out).2.1); rintro e w35 ⟨rfl, hb⟩; refine ⟨_, rfl, ?_⟩; have n0_ := Aside0.mk (Kd.R_below (by (with_reducible repeat (first | apply Kd.R_alloc | apply Kd.R_drewN | apply Kd.R_drew)); exact HO_8.out) hb); have n1_ := Aside0.mk (below_step (by repeat (first | (with_reducible first | exact HB.out | apply below_alloc | apply pw_below_drewN | apply below_drew1) | exact HB.out)) hb); clear HO_8; clear HB; have HO_8 := n0_; have HB := n1_; clear n0_ n1_; (try clear hb); (try clear hb2); (try clear hk); (try clear hi)) | ((with_reducible refine gate_callee (f := 10) rfl ?_); refine goesL_ (some 51) rfl rfl Try.func10 (by kernel_rfl) rfl #[.slice A0 l0.length c0] rfl (by (try simp only [List.map_toArray, List.map_cons, List.map_nil]); first | done | rfl | (simp only [List.length_drop, List.length_take]; rfl)) ?_; (with_reducible refine (check_Check.calls kj15 _ _ l0 t179 t180 _ ?side1 ?side2 A27.out).mono ?_); (case side1 => repeat (first | exact (Kd.C_below HR0.out HB.out) | (with_reducible refine Kd.C_alloc ?_ _) | (with_reducible refine Kd.C_drewN ?_ _) | (with_reducible refine Kd.C_drew ?_))); (case side2 => exact HC0.out); rintro e w36 ⟨rfl, hb⟩; refine ⟨_, rfl, ?_⟩; have n0_ := Aside0.mk (Kd.R_below (by (with_reducible repeat (first | apply Kd.R_alloc | apply Kd.R_drewN | apply Kd.R_drew)); exact HO_8.out) hb); have n1_ := Aside0.mk (below_step (by repeat (first | (with_reducible first | exact HB.out | apply below_alloc | apply pw_below_drewN | apply below_drew1) | exact HB.out)) hb); clear HO_8; clear HB; have HO_8 := n0_; have HB := n1_; clear n0_ n1_; (try clear hb); (try clear hb2); (try clear hk); (try clear hi)))
                        go_ret
                        exact ⟨by first | rfl | (simp [errW_none, errW_some] <;> rfl) | (simp only [← hji12]; first | rfl | (simp [errW_none, errW_some] <;> rfl)) | (simp [*, errW_none, errW_some] <;> rfl), by repeat (first | (with_reducible first | exact HB.out | apply below_alloc | apply pw_below_drewN | apply below_drew1) | exact HB.out)⟩
                    · rw [if_neg c28] at H
                      have c28b0 : (t179 == 0) = false := beq_eq_false_iff_ne.mpr c28
                      have c28b1 : (t179 != 0) = true := bne_iff_ne.mpr c28
                      by_cases c37 : t180 < ji12
                      · rw [if_pos c37] at H
                        have c37b0 : decide (t180 < ji12) = true := decide_eq_true c37
                        clear c37
                        by_cases c38 : t168 = true
                        · subst c38
                          have H1 : (if t177 = t179 then (some (t178 == t180)) else (some false)) = some r := by rw [if_pos rfl] at H; exact H
                          clear H
                          have H := H1
                          clear H1
                          by_cases c39 : t177 = t179
                          · rw [if_pos c39] at H
                            have c39b0 : (t177 == t179) = true := beq_iff_eq.mpr c39
                            have c39b1 : (t177 != t179) = false := bne_eq_false_iff_eq.mpr c39
                            clear c39
                            obtain rfl := Option.some.inj H
                            go_wp2_with (first | ((with_reducible refine gate_callee (f := 10) rfl ?_); refine goesL_ (some 46) rfl rfl Try.func10 (by kernel_rfl) rfl #[.slice (some ⟨go15, 0, none⟩) x8_15.length co15] rfl (by (try simp only [List.map_toArray, List.map_cons, List.map_nil]); first | done | rfl | (simp only [List.length_drop, List.length_take]; rfl)) ?_; (with_reducible refine (check_Check.calls kj15 _ _ x8_15 t177 t178 _ ?side1 ?side2 A26.out).mono ?_); (case side1 => repeat (first | exact (Kd.R_reads' HO_8.out).2.2 | (with_reducible refine Kd.C_alloc ?_ _) | (with_reducible refine Kd.C_drewN ?_ _) | (with_reducible refine Kd.C_drew ?_))); (case side2 => exact (Kd.R_reads' HO_8.out).2.1); rintro e w40 ⟨rfl, hb⟩; refine ⟨_, rfl, ?_⟩; have n0_ := Aside0.mk (Kd.R_below (by (with_reducible repeat (first | apply Kd.R_alloc | apply Kd.R_drewN | apply Kd.R_drew)); exact HO_8.out) hb); have n1_ := Aside0.mk (below_step (by repeat (first | (with_reducible first | exact HB.out | apply below_alloc | apply pw_below_drewN | apply below_drew1) | exact HB.out)) hb); clear HO_8; clear HB; have HO_8 := n0_; have HB := n1_; clear n0_ n1_; (try clear hb); (try clear hb2); (try clear hk); (try clear hi)) | ((with_reducible refine gate_callee (f := 10) rfl ?_); refine goesL_ (some 51) rfl rfl Try.func10 (by kernel_rfl) rfl #[.slice A0 l0.length c0] rfl (by (try simp only [List.map_toArray, List.map_cons, List.map_nil]); first | done | rfl | (simp only [List.length_drop, List.length_take]; rfl)) ?_; (with_reducible refine (check_Check.calls kj15 _ _ l0 t179 t180 _ ?side1 ?side2 A27.out).mono ?_); (case side1 => repeat (first | exact (Kd.C_below HR0.out HB.out) | (with_reducible refine Kd.C_alloc ?_ _) | (with_reducible refine Kd.C_drewN ?_ _) | (with_reducible refine Kd.C_drew ?_))); (case side2 => exact HC0.out); rintro e w41 ⟨rfl, hb⟩; refine ⟨_, rfl, ?_⟩; have n0_ := Aside0.mk (Kd.R_below (by (with_reducible repeat (first | apply Kd.R_alloc | apply Kd.R_drewN | apply Kd.R_drew)); exact HO_8.out) hb); have n1_ := Aside0.mk (below_step (by repeat (first | (with_reducible first | exact HB.out | apply below_alloc | apply pw_below_drewN | apply below_drew1) | exact HB.out)) hb); clear HO_8; clear HB; have HO_8 := n0_; have HB := n1_; clear n0_ n1_; (try clear hb); (try clear hb2); (try clear hk); (try clear hi)))
                            go_ret
                            exact ⟨by first | rfl | (simp [errW_none, errW_some] <;> rfl) | (simp only [← hji12]; first | rfl | (simp [errW_none, errW_some] <;> rfl)) | (simp [*, errW_none, errW_some] <;> rfl), by repeat (first | (with_reducible first | exact HB.out | apply below_alloc | apply pw_below_drewN | apply below_drew1) | exact HB.out)⟩
                          · rw [if_neg c39] at H
                            have c39b0 : (t177 == t179) = false := beq_eq_false_iff_ne.mpr c39
                            have c39b1 : (t177 != t179) = true := bne_iff_ne.mpr c39
                            obtain rfl := Option.some.inj H
                            go_wp2_with (first | ((with_reducible refine gate_callee (f := 10) rfl ?_); refine goesL_ (some 46) rfl rfl Try.func10 (by kernel_rfl) rfl #[.slice (some ⟨go15, 0, none⟩) x8_15.length co15] rfl (by (try simp only [List.map_toArray, List.map_cons, List.map_nil]); first | done | rfl | (simp only [List.length_drop, List.length_take]; rfl)) ?_; (with_reducible refine (check_Check.calls kj15 _ _ x8_15 t177 t178 _ ?side1 ?side2 A26.out).mono ?_); (case side1 => repeat (first | exact (Kd.R_reads' HO_8.out).2.2 | (with_reducible refine Kd.C_alloc ?_ _) | (with_reducible refine Kd.C_drewN ?_ _) | (with_reducible refine Kd.C_drew ?_))); (case side2 => exact (Kd.R_reads' HO_8.out).2.1); rintro e w42 ⟨rfl, hb⟩; refine ⟨_, rfl, ?_⟩; have n0_ := Aside0.mk (Kd.R_below (by (with_reducible repeat (first | apply Kd.R_alloc | apply Kd.R_drewN | apply Kd.R_drew)); exact HO_8.out) hb); have n1_ := Aside0.mk (below_step (by repeat (first | (with_reducible first | exact HB.out | apply below_alloc | apply pw_below_drewN | apply below_drew1) | exact HB.out)) hb); clear HO_8; clear HB; have HO_8 := n0_; have HB := n1_; clear n0_ n1_; (try clear hb); (try clear hb2); (try clear hk); (try clear hi)) | ((with_reducible refine gate_callee (f := 10) rfl ?_); refine goesL_ (some 51) rfl rfl Try.func10 (by kernel_rfl) rfl #[.slice A0 l0.length c0] rfl (by (try simp only [List.map_toArray, List.map_cons, List.map_nil]); first | done | rfl | (simp only [List.length_drop, List.length_take]; rfl)) ?_; (with_reducible refine (check_Check.calls kj15 _ _ l0 t179 t180 _ ?side1 ?side2 A27.out).mono ?_); (case side1 => repeat (first | exact (Kd.C_below HR0.out HB.out) | (with_reducible refine Kd.C_alloc ?_ _) | (with_reducible refine Kd.C_drewN ?_ _) | (with_reducible refine Kd.C_drew ?_))); (case side2 => exact HC0.out); rintro e w43 ⟨rfl, hb⟩; refine ⟨_, rfl, ?_⟩; have n0_ := Aside0.mk (Kd.R_below (by (with_reducible repeat (first | apply Kd.R_alloc | apply Kd.R_drewN | apply Kd.R_drew)); exact HO_8.out) hb); have n1_ := Aside0.mk (below_step (by repeat (first | (with_reducible first | exact HB.out | apply below_alloc | apply pw_below_drewN | apply below_drew1) | exact HB.out)) hb); clear HO_8; clear HB; have HO_8 := n0_; have HB := n1_; clear n0_ n1_; (try clear hb); (try clear hb2); (try clear hk); (try clear hi)))
                            go_ret
                            exact ⟨by first | rfl | (simp [errW_none, errW_some] <;> rfl) | (simp only [← hji12]; first | rfl | (simp [errW_none, errW_some] <;> rfl)) | (simp [*, errW_none, errW_some] <;> rfl), by repeat (first | (with_reducible first | exact HB.out | apply below_alloc | apply pw_below_drewN | apply below_drew1) | exact HB.out)⟩
                        · replace c38 := Bool.eq_false_iff.mpr c38
                          subst c38
                          have H1 : (some false) = some r := by rw [if_neg (show ¬ (false = true) by decide)] at H; exact H
                          clear H
                          have H := H1
                          clear H1
                          obtain rfl := Option.some.inj H
                          go_wp2_with (first | ((with_reducible refine gate_callee (f := 10) rfl ?_); refine goesL_ (some 46) rfl rfl Try.func10 (by kernel_rfl) rfl #[.slice (some ⟨go15, 0, none⟩) x8_15.length co15] rfl (by (try simp only [List.map_toArray, List.map_cons, List.map_nil]); first | done | rfl | (simp only [List.length_drop, List.length_take]; rfl)) ?_; (with_reducible refine (check_Check.calls kj15 _ _ x8_15 t177 t178 _ ?side1 ?side2 A26.out).mono ?_); (case side1 => repeat (first | exact (Kd.R_reads' HO_8.out).2.2 | (with_reducible refine Kd.C_alloc ?_ _) | (with_reducible refine Kd.C_drewN ?_ _) | (with_reducible refine Kd.C_drew ?_))); (case side2 => exact (Kd.R_reads' HO_8.out).2.1); rintro e w44 ⟨rfl, hb⟩; refine ⟨_, rfl, ?_⟩; have n0_ := Aside0.mk (Kd.R_below (by (with_reducible repeat (first | apply Kd.R_alloc | apply Kd.R_drewN | apply Kd.R_drew)); exact HO_8.out) hb); have n1_ := Aside0.mk (below_step (by repeat (first | (with_reducible first | exact HB.out | apply below_alloc | apply pw_below_drewN | apply below_drew1) | exact HB.out)) hb); clear HO_8; clear HB; have HO_8 := n0_; have HB := n1_; clear n0_ n1_; (try clear hb); (try clear hb2); (try clear hk); (try clear hi)) | ((with_reducible refine gate_callee (f := 10) rfl ?_); refine goesL_ (some 51) rfl rfl Try.func10 (by kernel_rfl) rfl #[.slice A0 l0.length c0] rfl (by (try simp only [List.map_toArray, List.map_cons, List.map_nil]); first | done | rfl | (simp only [List.length_drop, List.length_take]; rfl)) ?_; (with_reducible refine (check_Check.calls kj15 _ _ l0 t179 t180 _ ?side1 ?side2 A27.out).mono ?_); (case side1 => repeat (first | exact (Kd.C_below HR0.out HB.out) | (with_reducible refine Kd.C_alloc ?_ _) | (with_reducible refine Kd.C_drewN ?_ _) | (with_reducible refine Kd.C_drew ?_))); (case side2 => exact HC0.out); rintro e w45 ⟨rfl, hb⟩; refine ⟨_, rfl, ?_⟩; have n0_ := Aside0.mk (Kd.R_below (by (with_reducible repeat (first | apply Kd.R_alloc | apply Kd.R_drewN | apply Kd.R_drew)); exact HO_8.out) hb); have n1_ := Aside0.mk (below_step (by repeat (first | (with_reducible first | exact HB.out | apply below_alloc | apply pw_below_drewN | apply below_drew1) | exact HB.out)) hb); clear HO_8; clear HB; have HO_8 := n0_; have HB := n1_; clear n0_ n1_; (try clear hb); (try clear hb2); (try clear hk); (try clear hi)))
                          go_ret
                          exact ⟨by first | rfl | (simp [errW_none, errW_some] <;> rfl) | (simp only [← hji12]; first | rfl | (simp [errW_none, errW_some] <;> rfl)) | (simp [*, errW_none, errW_some] <;> rfl), by repeat (first | (with_reducible first | exact HB.out | apply below_alloc | apply pw_below_drewN | apply below_drew1) | exact HB.out)⟩
                      · rw [if_neg c37] at H
                        have c37b0 : decide (t180 < ji12) = false := decide_eq_false c37
                        clear c37
                        by_cases c46 : t168 = true
                        · subst c46
                          have H1 : (if t177 = x9_15 then (some (t178 == ji12)) else (some false)) = some r := by rw [if_pos rfl] at H; exact H
                          clear H
                          have H := H1
                          clear H1
                          by_cases c47 : t177 = x9_15
                          · rw [if_pos c47] at H
                            have c47b0 : (t177 == x9_15) = true := beq_iff_eq.mpr c47
                            have c47b1 : (t177 != x9_15) = false := bne_eq_false_iff_eq.mpr c47
                            clear c47
                            obtain rfl := Option.some.inj H
                            go_wp2_with (first | ((with_reducible refine gate_callee (f := 10) rfl ?_); refine goesL_ (some 46) rfl rfl Try.func10 (by kernel_rfl) rfl #[.slice (some ⟨go15, 0, none⟩) x8_15.length co15] rfl (by (try simp only [List.map_toArray, List.map_cons, List.map_nil]); first | done | rfl | (simp only [List.length_drop, List.length_take]; rfl)) ?_; (with_reducible refine (check_Check.calls kj15 _ _ x8_15 t177 t178 _ ?side1 ?side2 A26.out).mono ?_); (case side1 => repeat (first | exact (Kd.R_reads' HO_8.out).2.2 | (with_reducible refine Kd.C_alloc ?_ _) | (with_reducible refine Kd.C_drewN ?_ _) | (with_reducible refine Kd.C_drew ?_))); (case side2 => exact (Kd.R_reads' HO_8.out).2.1); rintro e w48 ⟨rfl, hb⟩; refine ⟨_, rfl, ?_⟩; have n0_ := Aside0.mk (Kd.R_below (by (with_reducible repeat (first | apply Kd.R_alloc | apply Kd.R_drewN | apply Kd.R_drew)); exact HO_8.out) hb); have n1_ := Aside0.mk (below_step (by repeat (first | (with_reducible first | exact HB.out | apply below_alloc | apply pw_below_drewN | apply below_drew1) | exact HB.out)) hb); clear HO_8; clear HB; have HO_8 := n0_; have HB := n1_; clear n0_ n1_; (try clear hb); (try clear hb2); (try clear hk); (try clear hi)) | ((with_reducible refine gate_callee (f := 10) rfl ?_); refine goesL_ (some 51) rfl rfl Try.func10 (by kernel_rfl) rfl #[.slice A0 l0.length c0] rfl (by (try simp only [List.map_toArray, List.map_cons, List.map_nil]); first | done | rfl | (simp only [List.length_drop, List.length_take]; rfl)) ?_; (with_reducible refine (check_Check.calls kj15 _ _ l0 t179 t180 _ ?side1 ?side2 A27.out).mono ?_); (case side1 => repeat (first | exact (Kd.C_below HR0.out HB.out) | (with_reducible refine Kd.C_alloc ?_ _) | (with_reducible refine Kd.C_drewN ?_ _) | (with_reducible refine Kd.C_drew ?_))); (case side2 => exact HC0.out); rintro e w49 ⟨rfl, hb⟩; refine ⟨_, rfl, ?_⟩; have n0_ := Aside0.mk (Kd.R_below (by (with_reducible repeat (first | apply Kd.R_alloc | apply Kd.R_drewN | apply Kd.R_drew)); exact HO_8.out) hb); have n1_ := Aside0.mk (below_step (by repeat (first | (with_reducible first | exact HB.out | apply below_alloc | apply pw_below_drewN | apply below_drew1) | exact HB.out)) hb); clear HO_8; clear HB; have HO_8 := n0_; have HB := n1_; clear n0_ n1_; (try clear hb); (try clear hb2); (try clear hk); (try clear hi)))
                            go_ret
                            exact ⟨by first | rfl | (simp [errW_none, errW_some] <;> rfl) | (simp only [← hji12]; first | rfl | (simp [errW_none, errW_some] <;> rfl)) | (simp [*, errW_none, errW_some] <;> rfl), by repeat (first | (with_reducible first | exact HB.out | apply below_alloc | apply pw_below_drewN | apply below_drew1) | exact HB.out)⟩
                          · rw [if_neg c47] at H
                            have c47b0 : (t177 == x9_15) = false := beq_eq_false_iff_ne.mpr c47
                            have c47b1 : (t177 != x9_15) = true := bne_iff_ne.mpr c47
                            obtain rfl := Option.some.inj H
                            go_wp2_with (first | ((with_reducible refine gate_callee (f := 10) rfl ?_); refine goesL_ (some 46) rfl rfl Try.func10 (by kernel_rfl) rfl #[.slice (some ⟨go15, 0, none⟩) x8_15.length co15] rfl (by (try simp only [List.map_toArray, List.map_cons, List.map_nil]); first | done | rfl | (simp only [List.length_drop, List.length_take]; rfl)) ?_; (with_reducible refine (check_Check.calls kj15 _ _ x8_15 t177 t178 _ ?side1 ?side2 A26.out).mono ?_); (case side1 => repeat (first | exact (Kd.R_reads' HO_8.out).2.2 | (with_reducible refine Kd.C_alloc ?_ _) | (with_reducible refine Kd.C_drewN ?_ _) | (with_reducible refine Kd.C_drew ?_))); (case side2 => exact (Kd.R_reads' HO_8.out).2.1); rintro e w50 ⟨rfl, hb⟩; refine ⟨_, rfl, ?_⟩; have n0_ := Aside0.mk (Kd.R_below (by (with_reducible repeat (first | apply Kd.R_alloc | apply Kd.R_drewN | apply Kd.R_drew)); exact HO_8.out) hb); have n1_ := Aside0.mk (below_step (by repeat (first | (with_reducible first | exact HB.out | apply below_alloc | apply pw_below_drewN | apply below_drew1) | exact HB.out)) hb); clear HO_8; clear HB; have HO_8 := n0_; have HB := n1_; clear n0_ n1_; (try clear hb); (try clear hb2); (try clear hk); (try clear hi)) | ((with_reducible refine gate_callee (f := 10) rfl ?_); refine goesL_ (some 51) rfl rfl Try.func10 (by kernel_rfl) rfl #[.slice A0 l0.length c0] rfl (by (try simp only [List.map_toArray, List.map_cons, List.map_nil]); first | done | rfl | (simp only [List.length_drop, List.length_take]; rfl)) ?_; (with_reducible refine (check_Check.calls kj15 _ _ l0 t179 t180 _ ?side1 ?side2 A27.out).mono ?_); (case side1 => repeat (first | exact (Kd.C_below HR0.out HB.out) | (with_reducible refine Kd.C_alloc ?_ _) | (with_reducible refine Kd.C_drewN ?_ _) | (with_reducible refine Kd.C_drew ?_))); (case side2 => exact HC0.out); rintro e w51 ⟨rfl, hb⟩; refine ⟨_, rfl, ?_⟩; have n0_ := Aside0.mk (Kd.R_below (by (with_reducible repeat (first | apply Kd.R_alloc | apply Kd.R_drewN | apply Kd.R_drew)); exact HO_8.out) hb); have n1_ := Aside0.mk (below_step (by repeat (first | (with_reducible first | exact HB.out | apply below_alloc | apply pw_below_drewN | apply below_drew1) | exact HB.out)) hb); clear HO_8; clear HB; have HO_8 := n0_; have HB := n1_; clear n0_ n1_; (try clear hb); (try clear hb2); (try clear hk); (try clear hi)))
                            go_ret
                            exact ⟨by first | rfl | (simp [errW_none, errW_some] <;> rfl) | (simp only [← hji12]; first | rfl | (simp [errW_none, errW_some] <;> rfl)) | (simp [*, errW_none, errW_some] <;> rfl), by repeat (first | (with_reducible first | exact HB.out | apply below_alloc | apply pw_below_drewN | apply below_drew1) | exact HB.out)⟩
                        · replace c46 := Bool.eq_false_iff.mpr c46
                          subst c46
                          have H1 : (some false) = some r := by rw [if_neg (show ¬ (false = true) by decide)] at H; exact H
                          clear H
                          have H := H1
                          clear H1
                          obtain rfl := Option.some.inj H
                          go_wp2_with (first | ((with_reducible refine gate_callee (f := 10) rfl ?_); refine goesL_ (some 46) rfl rfl Try.func10 (by kernel_rfl) rfl #[.slice (some ⟨go15, 0, none⟩) x8_15.length co15] rfl (by (try simp only [List.map_toArray, List.map_cons, List.map_nil]); first | done | rfl | (simp only [List.length_drop, List.length_take]; rfl)) ?_; (with_reducible refine (check_Check.calls kj15 _ _ x8_15 t177 t178 _ ?side1 ?side2 A26.out).mono ?_); (case side1 => repeat (first | exact (Kd.R_reads' HO_8.out).2.2 | (with_reducible refine Kd.C_alloc ?_ _) | (with_reducible refine Kd.C_drewN ?_ _) | (with_reducible refine Kd.C_drew ?_))); (case side2 => exact (Kd.R_reads' HO_8.out).2.1); rintro e w52 ⟨rfl, hb⟩; refine ⟨_, rfl, ?_⟩; have n0_ := Aside0.mk (Kd.R_below (by (with_reducible repeat (first | apply Kd.R_alloc | apply Kd.R_drewN | apply Kd.R_drew)); exact HO_8.out) hb); have n1_ := Aside0.mk (below_step (by repeat (first | (with_reducible first | exact HB.out | apply below_alloc | apply pw_below_drewN | apply below_drew1) | exact HB.out)) hb); clear HO_8; clear HB; have HO_8 := n0_; have HB := n1_; clear n0_ n1_; (try clear hb); (try clear hb2); (try clear hk); (try clear hi)) | ((with_reducible refine gate_callee (f := 10) rfl ?_); refine goesL_ (some 51) rfl rfl Try.func10 (by kernel_rfl) rfl #[.slice A0 l0.length c0] rfl (by (try simp only [List.map_toArray, List.map_cons, List.map_nil]); first | done | rfl | (simp only [List.length_drop, List.length_take]; rfl)) ?_; (with_reducible refine (check_Check.calls kj15 _ _ l0 t179 t180 _ ?side1 ?side2 A27.out).mono ?_); (case side1 => repeat (first | exact (Kd.C_below HR0.out HB.out) | (with_reducible refine Kd.C_alloc ?_ _) | (with_reducible refine Kd.C_drewN ?_ _) | (with_reducible refine Kd.C_drew ?_))); (case side2 => exact HC0.out); rintro e w53 ⟨rfl, hb⟩; refine ⟨_, rfl, ?_⟩; have n0_ := Aside0.mk (Kd.R_below (by (with_reducible repeat (first | apply Kd.R_alloc | apply Kd.R_drewN | apply Kd.R_drew)); exact HO_8.out) hb); have n1_ := Aside0.mk (below_step (by repeat (first | (with_reducible first | exact HB.out | apply below_alloc | apply pw_below_drewN | apply below_drew1) | exact HB.out)) hb); clear HO_8; clear HB; have HO_8 := n0_; have HB := n1_; clear n0_ n1_; (try clear hb); (try clear hb2); (try clear hk); (try clear hi)))
                          go_ret
                          exact ⟨by first | rfl | (simp [errW_none, errW_some] <;> rfl) | (simp only [← hji12]; first | rfl | (simp [errW_none, errW_some] <;> rfl)) | (simp [*, errW_none, errW_some] <;> rfl), by repeat (first | (with_reducible first | exact HB.out | apply below_alloc | apply pw_below_drewN | apply below_drew1) | exact HB.out)⟩
              · rw [if_neg c14] at H
                exact absurd H (by simp)
            · rw [if_neg c13] at H
              exact absurd H (by simp)
          · rw [if_neg c11] at H
            exact absurd H (by simp)

/-- What is to be shown of fairleadlaw05_CheckSpoilt, without Go and memory. -/
def fairleadlaw05_CheckSpoilt.Pure : Prop := ∀ (l0 : List (S32)) (a1 : Int) (a2 : Bool), (l0.length ≤ 9223372036854775807 ∧ ∀ x ∈ l0, (0 ≤ x.f0 ∧ x.f0 ≤ 65535) ∧ (0 ≤ x.f1 ∧ x.f1 ≤ 255) ∧ (0 ≤ x.f2 ∧ x.f2 ≤ 255) ∧ (0 ≤ x.f3 ∧ x.f3 ≤ 4294967295)) → ((-9223372036854775808) ≤ a1 ∧ a1 ≤ 9223372036854775807) → ∃ k, fairleadlaw05_CheckSpoilt.f k l0 a1 a2 = some true

/-! ### fairleadref05_SameInts: function 12 -/
def fairleadref05_SameInts.l0 : Nat → List Int → List Int → Int → Option (Bool)
  | 0, _, _, _ => none
  | k + 1, x0, x1, x5 => if x5 < (x0.length : Int) then (if 0 ≤ x5 then (if x5 < (x1.length : Int) then (if (rd x0 x5) = (rd x1 x5) then (fairleadref05_SameInts.l0 k x0 x1 (wrap64 (x5 + 1))) else (some false)) else (none)) else (none)) else (some true)
def fairleadref05_SameInts.f (k : Nat) (l0 : List Int) (l1 : List Int) : Option (Bool) := if (l0.length : Int) = (l1.length : Int) then (fairleadref05_SameInts.l0 k l0 l1 0) else (some false)
theorem fairleadref05_SameInts.mono_l : ∀ k, (∀ y0 y1 y2, LeO (fairleadref05_SameInts.l0 k y0 y1 y2) (fairleadref05_SameInts.l0 (k + 1) y0 y1 y2))
  | 0 => fun _ _ _ r h => by simp [fairleadref05_SameInts.l0] at h
  | k + 1 => by
    have ih0 := fairleadref05_SameInts.mono_l k
    · intro y0 y1 y2
      unfold fairleadref05_SameInts.l0
      repeat' first
      | (with_reducible exact ih0 _ _ _)
      | (with_reducible exact LeO.refl _)
      | (with_reducible exact LeO.none _)
      | (with_reducible refine LeO.ite ?_ ?_)
      | (with_reducible refine LeO.bind ?_ (fun _ => ?_))
      | exact ih0 _ _ _
      | exact LeO.none _
      | refine LeO.ite ?_ ?_
      | refine LeO.bind ?_ (fun _ => ?_)
theorem fairleadref05_SameInts.mono : ∀ a0 a1 k, LeO (fairleadref05_SameInts.f k a0 a1) (fairleadref05_SameInts.f (k + 1) a0 a1) := by
  intro a0 a1 k
  have ih0 := fairleadref05_SameInts.mono_l k
  unfold fairleadref05_SameInts.f
  repeat' first
      | (with_reducible exact ih0 _ _ _)
      | (with_reducible exact LeO.refl _)
      | (with_reducible exact LeO.none _)
      | (with_reducible refine LeO.ite ?_ ?_)
      | (with_reducible refine LeO.bind ?_ (fun _ => ?_))
      | exact ih0 _ _ _
      | exact LeO.none _
      | refine LeO.ite ?_ ?_
      | refine LeO.bind ?_ (fun _ => ?_)
set_option maxHeartbeats 8000000 in
set_option maxRecDepth 100000 in
theorem fairleadref05_SameInts.calls (k : Nat) (A0 : Option Addr) (c0 : Nat) (l0 : List Int) (A1 : Option Addr) (c1 : Nat) (l1 : List Int) (r : Bool) (w : World) (hr0 : Kd.C (Kd.int .i64) w A0 l0.length l0) (hc0 : l0.length ≤ c0) (hr1 : Kd.C (Kd.int .i64) w A1 l1.length l1) (hc1 : l1.length ≤ c1) (h : fairleadref05_SameInts.f k l0 l1 = some r) :
    Calls Try.prog 12 #[.slice A0 l0.length c0, .slice A1 l1.length c1] w fun e w' => e = .returned (.bool r) ∧ Drawn0 w w' := by
  have HR0 := Aside0.mk hr0
  have HC0 := Aside0.mk hc0
  clear hr0 hc0
  have HR1 := Aside0.mk hr1
  have HC1 := Aside0.mk hc1
  clear hr1 hc1
  have H : (if (l0.length : Int) = (l1.length : Int) then (fairleadref05_SameInts.l0 k l0 l1 0) else (some false)) = some r := h
  clear h
  by_cases c3 : (l0.length : Int) = (l1.length : Int)
  · rw [if_pos c3] at H
    have c3b0 : ((l0.length : Int) == (l1.length : Int)) = true := beq_iff_eq.mpr c3
    have c3b1 : ((l0.length : Int) != (l1.length : Int)) = false := bne_eq_false_iff_eq.mpr c3
    have c3b2 : (l0.length == l1.length) = true := by first | simpa using c3 | (simp at c3 ⊢; omega)
    clear c3
    have H' := Aside0.mk H
    clear H
    go_enter Try.func12, Try.ntmps12
    go_wp2
    repeat (go_quiet (fail); try go_wp2)
    go_loopg [5] k (fun kq v5 w' => ∃ (x5_1 : Int), v5 = .int .i64 x5_1 ∧ Aside0 (fairleadref05_SameInts.l0 kq l0 l1 x5_1 = some r) ∧ Aside0 (kq ≤ k) ∧ Drawn0 w w')
    case atStart => exact ⟨(0), (by first | rfl | (simp; done) | (simp [*]; done)), H', ⟨Nat.le_refl _⟩, by repeat (first | exact Drawn0.refl _ | apply Drawn0.step)⟩
    case round =>
      clear H'
      try clear c1
      try clear p2
      try clear c3
      try clear c3b0
      try clear c3b1
      try clear c3b2
      obtain ⟨x5_1, rfl, HA, HK1, ⟨m1, rfl⟩⟩ := hrel
      cases gk with
      | zero => exact absurd HA.out (by simp [fairleadref05_SameInts.l0])
      | succ k1 =>
        have H := HA.out
        clear HA
        simp only [fairleadref05_SameInts.l0] at H
        by_cases c4 : x5_1 < (l0.length : Int)
        · rw [if_pos c4] at H
          have c4b0 : decide (x5_1 < (l0.length : Int)) = true := decide_eq_true c4
          clear c4
          by_cases c5 : 0 ≤ x5_1
          · rw [if_pos c5] at H
            have c5b0 : decide (0 ≤ x5_1) = true := decide_eq_true c5
            clear c5
            by_cases c6 : x5_1 < (l1.length : Int)
            · rw [if_pos c6] at H
              have c6b0 : decide (x5_1 < (l1.length : Int)) = true := decide_eq_true c6
              clear c6
              by_cases c7 : (rd l0 x5_1) = (rd l1 x5_1)
              · rw [if_pos c7] at H
                have c7b0 : ((rd l0 x5_1) == (rd l1 x5_1)) = true := beq_iff_eq.mpr c7
                have c7b1 : ((rd l0 x5_1) != (rd l1 x5_1)) = false := bne_eq_false_iff_eq.mpr c7
                clear c7
                have H' := Aside0.mk H
                clear H
                have p181 : 0 ≤ (x5_1 : Int) := of_decide_eq_true (by first | (with_reducible assumption) | assumption)
                have q181 : x5_1 < (l0.length : Int) := of_decide_eq_true (by first | (with_reducible assumption) | assumption)
                obtain ⟨ad181, e181, hx181_0⟩ := Kd.at_int HR0.out x5_1 p181 q181
                cases e181
                replace p181 := eq_true p181
                replace q181 := eq_true q181
                have p182 : 0 ≤ (x5_1 : Int) := of_decide_eq_true (by first | (with_reducible assumption) | assumption)
                have q182 : x5_1 < (l1.length : Int) := of_decide_eq_true (by first | (with_reducible assumption) | assumption)
                obtain ⟨ad182, e182, hx182_0⟩ := Kd.at_int HR1.out x5_1 p182 q182
                cases e182
                replace p182 := eq_true p182
                replace q182 := eq_true q182
                go_wp2
                repeat (go_quiet (fail); try go_wp2)
                go_roundg k1
                case measure => have := HK1.out; omega
                case rel => exact ⟨(wrap64 (x5_1 + 1)), (by first | rfl | (simp; done) | (simp [*]; done)), H', ⟨by have := HK1.out; omega⟩, by repeat (first | exact Drawn0.refl _ | apply Drawn0.step)⟩
              · rw [if_neg c7] at H
                have c7b0 : ((rd l0 x5_1) == (rd l1 x5_1)) = false := beq_eq_false_iff_ne.mpr c7
                have c7b1 : ((rd l0 x5_1) != (rd l1 x5_1)) = true := bne_iff_ne.mpr c7
                obtain rfl := Option.some.inj H
                have p181 : 0 ≤ (x5_1 : Int) := of_decide_eq_true (by first | (with_reducible assumption) | assumption)
                have q181 : x5_1 < (l0.length : Int) := of_decide_eq_true (by first | (with_reducible assumption) | assumption)
                obtain ⟨ad181, e181, hx181_0⟩ := Kd.at_int HR0.out x5_1 p181 q181
                cases e181
                replace p181 := eq_true p181
                replace q181 := eq_true q181
                have p182 : 0 ≤ (x5_1 : Int) := of_decide_eq_true (by first | (with_reducible assumption) | assumption)
                have q182 : x5_1 < (l1.length : Int) := of_decide_eq_true (by first | (with_reducible assumption) | assumption)
                obtain ⟨ad182, e182, hx182_0⟩ := Kd.at_int HR1.out x5_1 p182 q182
                cases e182
                replace p182 := eq_true p182
                replace q182 := eq_true q182
                go_wp2
                repeat (go_quiet (fail); try go_wp2)
                go_ret
                exact ⟨by first | rfl | (simp; done) | (simp [*]; done), by repeat (first | exact Drawn0.refl _ | apply Drawn0.step)⟩
            · rw [if_neg c6] at H
              exact absurd H (by simp)
          · rw [if_neg c5] at H
            exact absurd H (by simp)
        · rw [if_neg c4] at H
          have c4b0 : decide (x5_1 < (l0.length : Int)) = false := decide_eq_false c4
          clear c4
          obtain rfl := Option.some.inj H
          go_wp2
          repeat (go_quiet (fail); try go_wp2)
          go_ret
          exact ⟨by first | rfl | (simp; done) | (simp [*]; done), by repeat (first | exact Drawn0.refl _ | apply Drawn0.step)⟩
  · rw [if_neg c3] at H
    have c3b0 : ((l0.length : Int) == (l1.length : Int)) = false := beq_eq_false_iff_ne.mpr c3
    have c3b1 : ((l0.length : Int) != (l1.length : Int)) = true := bne_iff_ne.mpr c3
    have c3b2 : (l0.length == l1.length) = false := by first | simpa using c3 | (simp at c3 ⊢; omega)
    obtain rfl := Option.some.inj H
    go_enter Try.func12, Try.ntmps12
    go_wp2
    repeat (go_quiet (fail); try go_wp2)
    go_ret
    exact ⟨by first | rfl | (simp; done) | (simp [*]; done), by repeat (first | exact Drawn0.refl _ | apply Drawn0.step)⟩

end Go.Proofs.Ytojaklonmikldaa.M
