-- Laid by a program (wip/tools/myprint.py) out of the loaded program's own print: for each Go function a Lean function and the proof of its contract.
import Derived.Test.YtbiccohcikfgeaaMx0
import Derived.Test.YtbiccohcikfgeaaMx4
namespace Go.Proofs.Ytbiccohcikfgeaa.M
open Go.RowKit Go.Proofs.YtbiccohcikfgeaaW.PrintWords Go.Proofs.YtbiccohcikfgeaaW.PrintLast Go.Proofs.YtbiccohcikfgeaaW.PrintMore
attribute [local go_sem] max2_int min2_int max_two min_two max_three min_three max_four min_four   -- for this text's walks alone
set_option linter.unusedVariables false
set_option linter.unusedSimpArgs false

/-! ### fairleadlaw09_LexLies: function 5 -/
mutual
def fairleadlaw09_LexLies.l0 : Nat → ByteArray → Bool → List (S31) → Int → Int → Int → Option (Bool)
  | 0, _, _, _, _, _, _ => none
  | k + 1, x0, x3, x7, x9, x10, x11 => if x11 < (x7.length : Int) then (if 0 ≤ x11 then (if ((rd_T31 x7 x11).f1) < x10 then (fairleadlaw09_LexLies.j1 k x0 x3 x7 x9 x11 true ((rd_T31 x7 x11).f0) ((rd_T31 x7 x11).f1) ((rd_T31 x7 x11).f2) ((rd_T31 x7 x11).f3)) else (if ((rd_T31 x7 x11).f1) > (x0.size : Int) then (fairleadlaw09_LexLies.j1 k x0 x3 x7 x9 x11 true ((rd_T31 x7 x11).f0) ((rd_T31 x7 x11).f1) ((rd_T31 x7 x11).f2) ((rd_T31 x7 x11).f3)) else (if (((rd_T31 x7 x11).f2).size : Int) > (wrap64 ((x0.size : Int) - ((rd_T31 x7 x11).f1))) then (fairleadlaw09_LexLies.j1 k x0 x3 x7 x9 x11 true ((rd_T31 x7 x11).f0) ((rd_T31 x7 x11).f1) ((rd_T31 x7 x11).f2) ((rd_T31 x7 x11).f3)) else (if 0 ≤ ((rd_T31 x7 x11).f1) then (if ((rd_T31 x7 x11).f1) ≤ (wrap64 (((rd_T31 x7 x11).f1) + (((rd_T31 x7 x11).f2).size : Int))) then (if (wrap64 (((rd_T31 x7 x11).f1) + (((rd_T31 x7 x11).f2).size : Int))) ≤ (x0.size : Int) then (fairleadlaw09_LexLies.j1 k x0 x3 x7 x9 x11 ((x0.extract (((rd_T31 x7 x11).f1) : Int).toNat ((wrap64 (((rd_T31 x7 x11).f1) + (((rd_T31 x7 x11).f2).size : Int))) : Int).toNat).toList != ((rd_T31 x7 x11).f2).toList) ((rd_T31 x7 x11).f0) ((rd_T31 x7 x11).f1) ((rd_T31 x7 x11).f2) ((rd_T31 x7 x11).f3)) else (none)) else (none)) else (none))))) else (none)) else (if x3 = true then (if x9 = (-1) then (if (x7.length : Int) > 0 then (if 0 ≤ (wrap64 ((x7.length : Int) - 1)) then (if (wrap64 ((x7.length : Int) - 1)) < (x7.length : Int) then (some (((rd_T31 x7 (wrap64 ((x7.length : Int) - 1))).f1) == (x0.size : Int))) else (none)) else (none)) else (some false)) else (some false)) else (some false))
def fairleadlaw09_LexLies.j1 : Nat → ByteArray → Bool → List (S31) → Int → Int → Bool → Int → Int → ByteArray → Int → Option (Bool)
  | 0, _, _, _, _, _, _, _, _, _, _ => none
  | k + 1, x0, x3, x7, x9, x11, x115, x195000, x195001, x195002, x195003 => if x115 = true then (some false) else (if ((x195000 == 4) != (x11 == (wrap64 ((x7.length : Int) - 1)))) = true then (some false) else (if ((x195002.toList == ([] : List UInt8)) != (x195000 == 4)) = true then (some false) else (if x195003 = 0 then (fairleadlaw09_LexLies.l0 k x0 x3 x7 x9 (wrap64 (x195001 + (x195002.size : Int))) (wrap64 (x11 + 1))) else (if x195000 = 2 then (fairleadlaw09_LexLies.l0 k x0 x3 x7 x9 (wrap64 (x195001 + (x195002.size : Int))) (wrap64 (x11 + 1))) else (some false)))))
end
def fairleadlaw09_LexLies.f (k : Nat) (a0 : ByteArray) : Option (Bool) := (fairleadlaw09_awake.f k).bind fun t181 => (if (a0.size : Int) > 8192 then ((lex_All.f k a0).bind fun bt182 => (if t181 = true then (if (bt182.1.length : Int) = 0 then (if bt182.2.1 = 4 then (some (bt182.2.2 == 0)) else (some false)) else (some false)) else (some false))) else ((lex_All.f k a0).bind fun bt187 => (if bt187.2.1 = 0 then (fairleadlaw09_LexLies.l0 k a0 t181 bt187.1 bt187.2.2 0 0) else (if t181 = true then (if (bt187.1.length : Int) = 0 then (if bt187.2.2 ≥ 0 then (if bt187.2.2 < (a0.size : Int) then (if bt187.2.1 = 5 then (some true) else (some (bt187.2.1 == 6))) else (some false)) else (some false)) else (some false)) else (some false)))))
theorem fairleadlaw09_LexLies.mono_l : ∀ k, (∀ y0 y1 y2 y3 y4 y5, LeO (fairleadlaw09_LexLies.l0 k y0 y1 y2 y3 y4 y5) (fairleadlaw09_LexLies.l0 (k + 1) y0 y1 y2 y3 y4 y5)) ∧ (∀ y0 y1 y2 y3 y4 y5 y6 y7 y8 y9, LeO (fairleadlaw09_LexLies.j1 k y0 y1 y2 y3 y4 y5 y6 y7 y8 y9) (fairleadlaw09_LexLies.j1 (k + 1) y0 y1 y2 y3 y4 y5 y6 y7 y8 y9))
  | 0 => ⟨fun _ _ _ _ _ _ r h => by simp [fairleadlaw09_LexLies.l0] at h, fun _ _ _ _ _ _ _ _ _ _ r h => by simp [fairleadlaw09_LexLies.j1] at h⟩
  | k + 1 => by
    obtain ⟨ih0, ih1⟩ := fairleadlaw09_LexLies.mono_l k
    refine ⟨?_, ?_⟩
    · intro y0 y1 y2 y3 y4 y5
      unfold fairleadlaw09_LexLies.l0
      repeat' first
      | (with_reducible exact ih0 _ _ _ _ _ _)
      | (with_reducible exact ih1 _ _ _ _ _ _ _ _ _ _)
      | (with_reducible exact fairleadlaw09_awake.mono _)
      | (with_reducible exact lex_All.mono _ _)
      | (with_reducible exact LeO.refl _)
      | (with_reducible exact LeO.none _)
      | (with_reducible refine LeO.ite ?_ ?_)
      | (with_reducible refine LeO.bind ?_ (fun _ => ?_))
      | exact ih0 _ _ _ _ _ _
      | exact ih1 _ _ _ _ _ _ _ _ _ _
      | exact fairleadlaw09_awake.mono _
      | exact lex_All.mono _ _
      | exact LeO.none _
      | refine LeO.ite ?_ ?_
      | refine LeO.bind ?_ (fun _ => ?_)
    · intro y0 y1 y2 y3 y4 y5 y6 y7 y8 y9
      unfold fairleadlaw09_LexLies.j1
      repeat' first
      | (with_reducible exact ih0 _ _ _ _ _ _)
      | (with_reducible exact ih1 _ _ _ _ _ _ _ _ _ _)
      | (with_reducible exact fairleadlaw09_awake.mono _)
      | (with_reducible exact lex_All.mono _ _)
      | (with_reducible exact LeO.refl _)
      | (with_reducible exact LeO.none _)
      | (with_reducible refine LeO.ite ?_ ?_)
      | (with_reducible refine LeO.bind ?_ (fun _ => ?_))
      | exact ih0 _ _ _ _ _ _
      | exact ih1 _ _ _ _ _ _ _ _ _ _
      | exact fairleadlaw09_awake.mono _
      | exact lex_All.mono _ _
      | exact LeO.none _
      | refine LeO.ite ?_ ?_
      | refine LeO.bind ?_ (fun _ => ?_)
theorem fairleadlaw09_LexLies.mono : ∀ a0 k, LeO (fairleadlaw09_LexLies.f k a0) (fairleadlaw09_LexLies.f (k + 1) a0) := by
  intro a0 k
  obtain ⟨ih0, ih1⟩ := fairleadlaw09_LexLies.mono_l k
  unfold fairleadlaw09_LexLies.f
  repeat' first
      | (with_reducible exact ih0 _ _ _ _ _ _)
      | (with_reducible exact ih1 _ _ _ _ _ _ _ _ _ _)
      | (with_reducible exact fairleadlaw09_awake.mono _)
      | (with_reducible exact lex_All.mono _ _)
      | (with_reducible exact LeO.refl _)
      | (with_reducible exact LeO.none _)
      | (with_reducible refine LeO.ite ?_ ?_)
      | (with_reducible refine LeO.bind ?_ (fun _ => ?_))
      | exact ih0 _ _ _ _ _ _
      | exact ih1 _ _ _ _ _ _ _ _ _ _
      | exact fairleadlaw09_awake.mono _
      | exact lex_All.mono _ _
      | exact LeO.none _
      | refine LeO.ite ?_ ?_
      | refine LeO.bind ?_ (fun _ => ?_)
set_option maxHeartbeats 8000000 in
set_option maxRecDepth 100000 in
theorem fairleadlaw09_LexLies.calls (k : Nat) (a0 : ByteArray) (r : Bool) (w : World) (h : fairleadlaw09_LexLies.f k a0 = some r) :
    Calls Try.prog 5 #[.string a0] w fun e w' => e = .returned (.bool r) ∧ Below w.heap.size w w' := by
  have hu31 := Try.underlying31
  have HB := Aside0.mk (Below.refl w.heap.size w)
  have H : ((fairleadlaw09_awake.f k).bind fun t181 => (if (a0.size : Int) > 8192 then ((lex_All.f k a0).bind fun bt182 => (if t181 = true then (if (bt182.1.length : Int) = 0 then (if bt182.2.1 = 4 then (some (bt182.2.2 == 0)) else (some false)) else (some false)) else (some false))) else ((lex_All.f k a0).bind fun bt187 => (if bt187.2.1 = 0 then (fairleadlaw09_LexLies.l0 k a0 t181 bt187.1 bt187.2.2 0 0) else (if t181 = true then (if (bt187.1.length : Int) = 0 then (if bt187.2.2 ≥ 0 then (if bt187.2.2 < (a0.size : Int) then (if bt187.2.1 = 5 then (some true) else (some (bt187.2.1 == 6))) else (some false)) else (some false)) else (some false)) else (some false)))))) = some r := h
  clear h
  replace H := Option.bind_eq_some_iff.mp H
  obtain ⟨t181, A20, H⟩ := H
  replace H : (if (a0.size : Int) > 8192 then ((lex_All.f k a0).bind fun bt182 => (if t181 = true then (if (bt182.1.length : Int) = 0 then (if bt182.2.1 = 4 then (some (bt182.2.2 == 0)) else (some false)) else (some false)) else (some false))) else ((lex_All.f k a0).bind fun bt187 => (if bt187.2.1 = 0 then (fairleadlaw09_LexLies.l0 k a0 t181 bt187.1 bt187.2.2 0 0) else (if t181 = true then (if (bt187.1.length : Int) = 0 then (if bt187.2.2 ≥ 0 then (if bt187.2.2 < (a0.size : Int) then (if bt187.2.1 = 5 then (some true) else (some (bt187.2.1 == 6))) else (some false)) else (some false)) else (some false)) else (some false))))) = some r := H
  have A2 := Aside0.mk A20
  clear A20
  by_cases c3 : (a0.size : Int) > 8192
  · rw [if_pos c3] at H
    have c3b0 : decide (8192 < (a0.size : Int)) = true := decide_eq_true c3
    have c3b1 : decide (8192 < a0.size) = true := decide_eq_true (by omega)
    clear c3
    replace H := Option.bind_eq_some_iff.mp H
    obtain ⟨⟨t182, t183, t184⟩, A40, H⟩ := H
    replace H : (if t181 = true then (if (t182.length : Int) = 0 then (if t183 = 4 then (some (t184 == 0)) else (some false)) else (some false)) else (some false)) = some r := H
    have A4 := Aside0.mk A40
    clear A40
    by_cases c5 : t181 = true
    · subst c5
      have H1 : (if (t182.length : Int) = 0 then (if t183 = 4 then (some (t184 == 0)) else (some false)) else (some false)) = some r := by rw [if_pos rfl] at H; exact H
      clear H
      have H := H1
      clear H1
      by_cases c6 : (t182.length : Int) = 0
      · rw [if_pos c6] at H
        have c6b0 : ((t182.length : Int) == 0) = true := beq_iff_eq.mpr c6
        have c6b1 : ((t182.length : Int) != 0) = false := bne_eq_false_iff_eq.mpr c6
        clear c6
        by_cases c7 : t183 = 4
        · rw [if_pos c7] at H
          have c7b0 : (t183 == 4) = true := beq_iff_eq.mpr c7
          have c7b1 : (t183 != 4) = false := bne_eq_false_iff_eq.mpr c7
          clear c7
          obtain rfl := Option.some.inj H
          go_enter Try.func5, Try.ntmps5
          go_wp2_with (first | (go_at_call 9; (with_reducible refine (fairleadlaw09_awake.calls k  true _ A2.out).mono ?_); rintro e w8 ⟨rfl, hb⟩; have n0_ := Aside0.mk (below_step (by repeat (first | (with_reducible first | exact HB.out | apply below_alloc | apply pw_below_drewN | apply below_drew1) | exact HB.out)) hb); clear HB; have HB := n0_; clear n0_; (try clear hb); (try clear hb2); (try clear hk); (try clear hi)) | (go_at_call 10; (with_reducible refine (lex_All.calls k a0 t182 t183 t184 _ A4.out).mono ?_); rintro e w9 ⟨v185, rfl, ho0, hb⟩; have n0_ := Aside0.mk (Kd.R_lower ho0 (below_size (by repeat (first | (with_reducible first | exact HB.out | apply below_alloc | apply pw_below_drewN | apply below_drew1) | exact HB.out)))); have n1_ := Aside0.mk (below_step (by repeat (first | (with_reducible first | exact HB.out | apply below_alloc | apply pw_below_drewN | apply below_drew1) | exact HB.out)) hb); clear HB; have HO186 := n0_; have HB := n1_; clear n0_ n1_; (try clear hb); (try clear hb2); (try clear hk); (try clear hi); (try clear ho0); obtain ⟨Ao10, co10, eo10⟩ := Kd.R_slice HO186.out; subst eo10))
          repeat (go_quiet (first | (go_at_call 9; (with_reducible refine (fairleadlaw09_awake.calls k  true _ A2.out).mono ?_); rintro e w8 ⟨rfl, hb⟩; have n0_ := Aside0.mk (below_step (by repeat (first | (with_reducible first | exact HB.out | apply below_alloc | apply pw_below_drewN | apply below_drew1) | exact HB.out)) hb); clear HB; have HB := n0_; clear n0_; (try clear hb); (try clear hb2); (try clear hk); (try clear hi)) | (go_at_call 10; (with_reducible refine (lex_All.calls k a0 t182 t183 t184 _ A4.out).mono ?_); rintro e w9 ⟨v185, rfl, ho0, hb⟩; have n0_ := Aside0.mk (Kd.R_lower ho0 (below_size (by repeat (first | (with_reducible first | exact HB.out | apply below_alloc | apply pw_below_drewN | apply below_drew1) | exact HB.out)))); have n1_ := Aside0.mk (below_step (by repeat (first | (with_reducible first | exact HB.out | apply below_alloc | apply pw_below_drewN | apply below_drew1) | exact HB.out)) hb); clear HB; have HO186 := n0_; have HB := n1_; clear n0_ n1_; (try clear hb); (try clear hb2); (try clear hk); (try clear hi); (try clear ho0); obtain ⟨Ao10, co10, eo10⟩ := Kd.R_slice HO186.out; subst eo10)); try go_wp2_with (first | (go_at_call 9; (with_reducible refine (fairleadlaw09_awake.calls k  true _ A2.out).mono ?_); rintro e w8 ⟨rfl, hb⟩; have n0_ := Aside0.mk (below_step (by repeat (first | (with_reducible first | exact HB.out | apply below_alloc | apply pw_below_drewN | apply below_drew1) | exact HB.out)) hb); clear HB; have HB := n0_; clear n0_; (try clear hb); (try clear hb2); (try clear hk); (try clear hi)) | (go_at_call 10; (with_reducible refine (lex_All.calls k a0 t182 t183 t184 _ A4.out).mono ?_); rintro e w9 ⟨v185, rfl, ho0, hb⟩; have n0_ := Aside0.mk (Kd.R_lower ho0 (below_size (by repeat (first | (with_reducible first | exact HB.out | apply below_alloc | apply pw_below_drewN | apply below_drew1) | exact HB.out)))); have n1_ := Aside0.mk (below_step (by repeat (first | (with_reducible first | exact HB.out | apply below_alloc | apply pw_below_drewN | apply below_drew1) | exact HB.out)) hb); clear HB; have HO186 := n0_; have HB := n1_; clear n0_ n1_; (try clear hb); (try clear hb2); (try clear hk); (try clear hi); (try clear ho0); obtain ⟨Ao10, co10, eo10⟩ := Kd.R_slice HO186.out; subst eo10)))
          go_ret
          exact ⟨by first | rfl | (simp [errW_none, errW_some] <;> rfl) | (simp [*, errW_none, errW_some] <;> rfl), by repeat (first | (with_reducible first | exact HB.out | apply below_alloc | apply pw_below_drewN | apply below_drew1) | exact HB.out)⟩
        · rw [if_neg c7] at H
          have c7b0 : (t183 == 4) = false := beq_eq_false_iff_ne.mpr c7
          have c7b1 : (t183 != 4) = true := bne_iff_ne.mpr c7
          obtain rfl := Option.some.inj H
          go_enter Try.func5, Try.ntmps5
          go_wp2_with (first | (go_at_call 9; (with_reducible refine (fairleadlaw09_awake.calls k  true _ A2.out).mono ?_); rintro e w11 ⟨rfl, hb⟩; have n0_ := Aside0.mk (below_step (by repeat (first | (with_reducible first | exact HB.out | apply below_alloc | apply pw_below_drewN | apply below_drew1) | exact HB.out)) hb); clear HB; have HB := n0_; clear n0_; (try clear hb); (try clear hb2); (try clear hk); (try clear hi)) | (go_at_call 10; (with_reducible refine (lex_All.calls k a0 t182 t183 t184 _ A4.out).mono ?_); rintro e w12 ⟨v185, rfl, ho0, hb⟩; have n0_ := Aside0.mk (Kd.R_lower ho0 (below_size (by repeat (first | (with_reducible first | exact HB.out | apply below_alloc | apply pw_below_drewN | apply below_drew1) | exact HB.out)))); have n1_ := Aside0.mk (below_step (by repeat (first | (with_reducible first | exact HB.out | apply below_alloc | apply pw_below_drewN | apply below_drew1) | exact HB.out)) hb); clear HB; have HO186 := n0_; have HB := n1_; clear n0_ n1_; (try clear hb); (try clear hb2); (try clear hk); (try clear hi); (try clear ho0); obtain ⟨Ao13, co13, eo13⟩ := Kd.R_slice HO186.out; subst eo13))
          repeat (go_quiet (first | (go_at_call 9; (with_reducible refine (fairleadlaw09_awake.calls k  true _ A2.out).mono ?_); rintro e w11 ⟨rfl, hb⟩; have n0_ := Aside0.mk (below_step (by repeat (first | (with_reducible first | exact HB.out | apply below_alloc | apply pw_below_drewN | apply below_drew1) | exact HB.out)) hb); clear HB; have HB := n0_; clear n0_; (try clear hb); (try clear hb2); (try clear hk); (try clear hi)) | (go_at_call 10; (with_reducible refine (lex_All.calls k a0 t182 t183 t184 _ A4.out).mono ?_); rintro e w12 ⟨v185, rfl, ho0, hb⟩; have n0_ := Aside0.mk (Kd.R_lower ho0 (below_size (by repeat (first | (with_reducible first | exact HB.out | apply below_alloc | apply pw_below_drewN | apply below_drew1) | exact HB.out)))); have n1_ := Aside0.mk (below_step (by repeat (first | (with_reducible first | exact HB.out | apply below_alloc | apply pw_below_drewN | apply below_drew1) | exact HB.out)) hb); clear HB; have HO186 := n0_; have HB := n1_; clear n0_ n1_; (try clear hb); (try clear hb2); (try clear hk); (try clear hi); (try clear ho0); obtain ⟨Ao13, co13, eo13⟩ := Kd.R_slice HO186.out; subst eo13)); try go_wp2_with (first | (go_at_call 9; (with_reducible refine (fairleadlaw09_awake.calls k  true _ A2.out).mono ?_); rintro e w11 ⟨rfl, hb⟩; have n0_ := Aside0.mk (below_step (by repeat (first | (with_reducible first | exact HB.out | apply below_alloc | apply pw_below_drewN | apply below_drew1) | exact HB.out)) hb); clear HB; have HB := n0_; clear n0_; (try clear hb); (try clear hb2); (try clear hk); (try clear hi)) | (go_at_call 10; (with_reducible refine (lex_All.calls k a0 t182 t183 t184 _ A4.out).mono ?_); rintro e w12 ⟨v185, rfl, ho0, hb⟩; have n0_ := Aside0.mk (Kd.R_lower ho0 (below_size (by repeat (first | (with_reducible first | exact HB.out | apply below_alloc | apply pw_below_drewN | apply below_drew1) | exact HB.out)))); have n1_ := Aside0.mk (below_step (by repeat (first | (with_reducible first | exact HB.out | apply below_alloc | apply pw_below_drewN | apply below_drew1) | exact HB.out)) hb); clear HB; have HO186 := n0_; have HB := n1_; clear n0_ n1_; (try clear hb); (try clear hb2); (try clear hk); (try clear hi); (try clear ho0); obtain ⟨Ao13, co13, eo13⟩ := Kd.R_slice HO186.out; subst eo13)))
          go_ret
          exact ⟨by first | rfl | (simp [errW_none, errW_some] <;> rfl) | (simp [*, errW_none, errW_some] <;> rfl), by repeat (first | (with_reducible first | exact HB.out | apply below_alloc | apply pw_below_drewN | apply below_drew1) | exact HB.out)⟩
      · rw [if_neg c6] at H
        have c6b0 : ((t182.length : Int) == 0) = false := beq_eq_false_iff_ne.mpr c6
        have c6b1 : ((t182.length : Int) != 0) = true := bne_iff_ne.mpr c6
        have c6b2 : ¬ (t182 = []) := fun h_ => c6 (by rw [h_]; rfl)
        obtain rfl := Option.some.inj H
        go_enter Try.func5, Try.ntmps5
        go_wp2_with (first | (go_at_call 9; (with_reducible refine (fairleadlaw09_awake.calls k  true _ A2.out).mono ?_); rintro e w14 ⟨rfl, hb⟩; have n0_ := Aside0.mk (below_step (by repeat (first | (with_reducible first | exact HB.out | apply below_alloc | apply pw_below_drewN | apply below_drew1) | exact HB.out)) hb); clear HB; have HB := n0_; clear n0_; (try clear hb); (try clear hb2); (try clear hk); (try clear hi)) | (go_at_call 10; (with_reducible refine (lex_All.calls k a0 t182 t183 t184 _ A4.out).mono ?_); rintro e w15 ⟨v185, rfl, ho0, hb⟩; have n0_ := Aside0.mk (Kd.R_lower ho0 (below_size (by repeat (first | (with_reducible first | exact HB.out | apply below_alloc | apply pw_below_drewN | apply below_drew1) | exact HB.out)))); have n1_ := Aside0.mk (below_step (by repeat (first | (with_reducible first | exact HB.out | apply below_alloc | apply pw_below_drewN | apply below_drew1) | exact HB.out)) hb); clear HB; have HO186 := n0_; have HB := n1_; clear n0_ n1_; (try clear hb); (try clear hb2); (try clear hk); (try clear hi); (try clear ho0); obtain ⟨Ao16, co16, eo16⟩ := Kd.R_slice HO186.out; subst eo16))
        repeat (go_quiet (first | (go_at_call 9; (with_reducible refine (fairleadlaw09_awake.calls k  true _ A2.out).mono ?_); rintro e w14 ⟨rfl, hb⟩; have n0_ := Aside0.mk (below_step (by repeat (first | (with_reducible first | exact HB.out | apply below_alloc | apply pw_below_drewN | apply below_drew1) | exact HB.out)) hb); clear HB; have HB := n0_; clear n0_; (try clear hb); (try clear hb2); (try clear hk); (try clear hi)) | (go_at_call 10; (with_reducible refine (lex_All.calls k a0 t182 t183 t184 _ A4.out).mono ?_); rintro e w15 ⟨v185, rfl, ho0, hb⟩; have n0_ := Aside0.mk (Kd.R_lower ho0 (below_size (by repeat (first | (with_reducible first | exact HB.out | apply below_alloc | apply pw_below_drewN | apply below_drew1) | exact HB.out)))); have n1_ := Aside0.mk (below_step (by repeat (first | (with_reducible first | exact HB.out | apply below_alloc | apply pw_below_drewN | apply below_drew1) | exact HB.out)) hb); clear HB; have HO186 := n0_; have HB := n1_; clear n0_ n1_; (try clear hb); (try clear hb2); (try clear hk); (try clear hi); (try clear ho0); obtain ⟨Ao16, co16, eo16⟩ := Kd.R_slice HO186.out; subst eo16)); try go_wp2_with (first | (go_at_call 9; (with_reducible refine (fairleadlaw09_awake.calls k  true _ A2.out).mono ?_); rintro e w14 ⟨rfl, hb⟩; have n0_ := Aside0.mk (below_step (by repeat (first | (with_reducible first | exact HB.out | apply below_alloc | apply pw_below_drewN | apply below_drew1) | exact HB.out)) hb); clear HB; have HB := n0_; clear n0_; (try clear hb); (try clear hb2); (try clear hk); (try clear hi)) | (go_at_call 10; (with_reducible refine (lex_All.calls k a0 t182 t183 t184 _ A4.out).mono ?_); rintro e w15 ⟨v185, rfl, ho0, hb⟩; have n0_ := Aside0.mk (Kd.R_lower ho0 (below_size (by repeat (first | (with_reducible first | exact HB.out | apply below_alloc | apply pw_below_drewN | apply below_drew1) | exact HB.out)))); have n1_ := Aside0.mk (below_step (by repeat (first | (with_reducible first | exact HB.out | apply below_alloc | apply pw_below_drewN | apply below_drew1) | exact HB.out)) hb); clear HB; have HO186 := n0_; have HB := n1_; clear n0_ n1_; (try clear hb); (try clear hb2); (try clear hk); (try clear hi); (try clear ho0); obtain ⟨Ao16, co16, eo16⟩ := Kd.R_slice HO186.out; subst eo16)))
        go_ret
        exact ⟨by first | rfl | (simp [errW_none, errW_some] <;> rfl) | (simp [*, errW_none, errW_some] <;> rfl), by repeat (first | (with_reducible first | exact HB.out | apply below_alloc | apply pw_below_drewN | apply below_drew1) | exact HB.out)⟩
    · replace c5 := Bool.eq_false_iff.mpr c5
      subst c5
      have H1 : (some false) = some r := by rw [if_neg (show ¬ (false = true) by decide)] at H; exact H
      clear H
      have H := H1
      clear H1
      obtain rfl := Option.some.inj H
      go_enter Try.func5, Try.ntmps5
      go_wp2_with (first | (go_at_call 9; (with_reducible refine (fairleadlaw09_awake.calls k  false _ A2.out).mono ?_); rintro e w17 ⟨rfl, hb⟩; have n0_ := Aside0.mk (below_step (by repeat (first | (with_reducible first | exact HB.out | apply below_alloc | apply pw_below_drewN | apply below_drew1) | exact HB.out)) hb); clear HB; have HB := n0_; clear n0_; (try clear hb); (try clear hb2); (try clear hk); (try clear hi)) | (go_at_call 10; (with_reducible refine (lex_All.calls k a0 t182 t183 t184 _ A4.out).mono ?_); rintro e w18 ⟨v185, rfl, ho0, hb⟩; have n0_ := Aside0.mk (Kd.R_lower ho0 (below_size (by repeat (first | (with_reducible first | exact HB.out | apply below_alloc | apply pw_below_drewN | apply below_drew1) | exact HB.out)))); have n1_ := Aside0.mk (below_step (by repeat (first | (with_reducible first | exact HB.out | apply below_alloc | apply pw_below_drewN | apply below_drew1) | exact HB.out)) hb); clear HB; have HO186 := n0_; have HB := n1_; clear n0_ n1_; (try clear hb); (try clear hb2); (try clear hk); (try clear hi); (try clear ho0)))
      repeat (go_quiet (first | (go_at_call 9; (with_reducible refine (fairleadlaw09_awake.calls k  false _ A2.out).mono ?_); rintro e w17 ⟨rfl, hb⟩; have n0_ := Aside0.mk (below_step (by repeat (first | (with_reducible first | exact HB.out | apply below_alloc | apply pw_below_drewN | apply below_drew1) | exact HB.out)) hb); clear HB; have HB := n0_; clear n0_; (try clear hb); (try clear hb2); (try clear hk); (try clear hi)) | (go_at_call 10; (with_reducible refine (lex_All.calls k a0 t182 t183 t184 _ A4.out).mono ?_); rintro e w18 ⟨v185, rfl, ho0, hb⟩; have n0_ := Aside0.mk (Kd.R_lower ho0 (below_size (by repeat (first | (with_reducible first | exact HB.out | apply below_alloc | apply pw_below_drewN | apply below_drew1) | exact HB.out)))); have n1_ := Aside0.mk (below_step (by repeat (first | (with_reducible first | exact HB.out | apply below_alloc | apply pw_below_drewN | apply below_drew1) | exact HB.out)) hb); clear HB; have HO186 := n0_; have HB := n1_; clear n0_ n1_; (try clear hb); (try clear hb2); (try clear hk); (try clear hi); (try clear ho0))); try go_wp2_with (first | (go_at_call 9; (with_reducible refine (fairleadlaw09_awake.calls k  false _ A2.out).mono ?_); rintro e w17 ⟨rfl, hb⟩; have n0_ := Aside0.mk (below_step (by repeat (first | (with_reducible first | exact HB.out | apply below_alloc | apply pw_below_drewN | apply below_drew1) | exact HB.out)) hb); clear HB; have HB := n0_; clear n0_; (try clear hb); (try clear hb2); (try clear hk); (try clear hi)) | (go_at_call 10; (with_reducible refine (lex_All.calls k a0 t182 t183 t184 _ A4.out).mono ?_); rintro e w18 ⟨v185, rfl, ho0, hb⟩; have n0_ := Aside0.mk (Kd.R_lower ho0 (below_size (by repeat (first | (with_reducible first | exact HB.out | apply below_alloc | apply pw_below_drewN | apply below_drew1) | exact HB.out)))); have n1_ := Aside0.mk (below_step (by repeat (first | (with_reducible first | exact HB.out | apply below_alloc | apply pw_below_drewN | apply below_drew1) | exact HB.out)) hb); clear HB; have HO186 := n0_; have HB := n1_; clear n0_ n1_; (try clear hb); (try clear hb2); (try clear hk); (try clear hi); (try clear ho0))))
      go_ret
      exact ⟨by first | rfl | (simp [errW_none, errW_some] <;> rfl) | (simp [*, errW_none, errW_some] <;> rfl), by repeat (first | (with_reducible first | exact HB.out | apply below_alloc | apply pw_below_drewN | apply below_drew1) | exact HB.out)⟩
  · rw [if_neg c3] at H
    have c3b0 : decide (8192 < (a0.size : Int)) = false := decide_eq_false c3
    have c3b1 : decide (8192 < a0.size) = false := decide_eq_false (by omega)
    clear c3
    replace H := Option.bind_eq_some_iff.mp H
    obtain ⟨⟨t187, t188, t189⟩, A190, H⟩ := H
    replace H : (if t188 = 0 then (fairleadlaw09_LexLies.l0 k a0 t181 t187 t189 0 0) else (if t181 = true then (if (t187.length : Int) = 0 then (if t189 ≥ 0 then (if t189 < (a0.size : Int) then (if t188 = 5 then (some true) else (some (t188 == 6))) else (some false)) else (some false)) else (some false)) else (some false))) = some r := H
    have A19 := Aside0.mk A190
    clear A190
    by_cases c20 : t188 = 0
    · rw [if_pos c20] at H
      have c20b0 : (t188 == 0) = true := beq_iff_eq.mpr c20
      have c20b1 : (t188 != 0) = false := bne_eq_false_iff_eq.mpr c20
      clear c20
      have H' := Aside0.mk H
      clear H
      go_enter Try.func5, Try.ntmps5
      go_wp2_with (first | (go_at_call 9; (with_reducible refine (fairleadlaw09_awake.calls k  t181 _ A2.out).mono ?_); rintro e w21 ⟨rfl, hb⟩; have n0_ := Aside0.mk (below_step (by repeat (first | (with_reducible first | exact HB.out | apply below_alloc | apply pw_below_drewN | apply below_drew1) | exact HB.out)) hb); clear HB; have HB := n0_; clear n0_; (try clear hb); (try clear hb2); (try clear hk); (try clear hi)) | (go_at_call 10; (with_reducible refine (lex_All.calls k a0 t187 t188 t189 _ A19.out).mono ?_); rintro e w22 ⟨v190, rfl, ho0, hb⟩; have n0_ := Aside0.mk (Kd.R_lower ho0 (below_size (by repeat (first | (with_reducible first | exact HB.out | apply below_alloc | apply pw_below_drewN | apply below_drew1) | exact HB.out)))); have n1_ := Aside0.mk (below_step (by repeat (first | (with_reducible first | exact HB.out | apply below_alloc | apply pw_below_drewN | apply below_drew1) | exact HB.out)) hb); clear HB; have HO191 := n0_; have HB := n1_; clear n0_ n1_; (try clear hb); (try clear hb2); (try clear hk); (try clear hi); (try clear ho0)))
      repeat (go_quiet (first | (go_at_call 9; (with_reducible refine (fairleadlaw09_awake.calls k  t181 _ A2.out).mono ?_); rintro e w21 ⟨rfl, hb⟩; have n0_ := Aside0.mk (below_step (by repeat (first | (with_reducible first | exact HB.out | apply below_alloc | apply pw_below_drewN | apply below_drew1) | exact HB.out)) hb); clear HB; have HB := n0_; clear n0_; (try clear hb); (try clear hb2); (try clear hk); (try clear hi)) | (go_at_call 10; (with_reducible refine (lex_All.calls k a0 t187 t188 t189 _ A19.out).mono ?_); rintro e w22 ⟨v190, rfl, ho0, hb⟩; have n0_ := Aside0.mk (Kd.R_lower ho0 (below_size (by repeat (first | (with_reducible first | exact HB.out | apply below_alloc | apply pw_below_drewN | apply below_drew1) | exact HB.out)))); have n1_ := Aside0.mk (below_step (by repeat (first | (with_reducible first | exact HB.out | apply below_alloc | apply pw_below_drewN | apply below_drew1) | exact HB.out)) hb); clear HB; have HO191 := n0_; have HB := n1_; clear n0_ n1_; (try clear hb); (try clear hb2); (try clear hk); (try clear hi); (try clear ho0))); try go_wp2_with (first | (go_at_call 9; (with_reducible refine (fairleadlaw09_awake.calls k  t181 _ A2.out).mono ?_); rintro e w21 ⟨rfl, hb⟩; have n0_ := Aside0.mk (below_step (by repeat (first | (with_reducible first | exact HB.out | apply below_alloc | apply pw_below_drewN | apply below_drew1) | exact HB.out)) hb); clear HB; have HB := n0_; clear n0_; (try clear hb); (try clear hb2); (try clear hk); (try clear hi)) | (go_at_call 10; (with_reducible refine (lex_All.calls k a0 t187 t188 t189 _ A19.out).mono ?_); rintro e w22 ⟨v190, rfl, ho0, hb⟩; have n0_ := Aside0.mk (Kd.R_lower ho0 (below_size (by repeat (first | (with_reducible first | exact HB.out | apply below_alloc | apply pw_below_drewN | apply below_drew1) | exact HB.out)))); have n1_ := Aside0.mk (below_step (by repeat (first | (with_reducible first | exact HB.out | apply below_alloc | apply pw_below_drewN | apply below_drew1) | exact HB.out)) hb); clear HB; have HO191 := n0_; have HB := n1_; clear n0_ n1_; (try clear hb); (try clear hb2); (try clear hk); (try clear hi); (try clear ho0))))
      go_loopg [10, 11] k (fun kq v10 v11 w' => ∃ (x10_1 : Int) (x11_1 : Int), v10 = .int .i64 x10_1 ∧ v11 = .int .i64 x11_1 ∧ Aside0 (fairleadlaw09_LexLies.l0 kq a0 t181 t187 t189 x10_1 x11_1 = some r) ∧ Aside0 (kq ≤ k) ∧ Aside0 (Kd.R k31 31 w' w.heap.size (fun _ => True) v190 t187) ∧ Aside0 (Below w.heap.size w w'))
      case atStart => exact ⟨(0), (0), (by first | rfl | (simp; done) | (simp [*]; done)), (by first | rfl | (simp; done) | (simp [*]; done)), H', ⟨Nat.le_refl _⟩, ⟨by (with_reducible repeat (first | apply Kd.R_alloc | apply Kd.R_drewN | apply Kd.R_drew)); exact HO191.out⟩, ⟨by repeat (first | (with_reducible first | exact HB.out | apply below_alloc | apply pw_below_drewN | apply below_drew1) | exact HB.out)⟩⟩
      case round =>
        clear H'
        try clear c2
        try clear p2
        try clear c3
        try clear c3b0
        try clear c3b1
        try clear c5
        try clear c6
        try clear c6b0
        try clear c6b1
        try clear c6b2
        try clear c7
        try clear c7b0
        try clear c7b1
        try clear c20
        try clear c20b0
        try clear c20b1
        obtain ⟨x10_1, x11_1, rfl, rfl, HA, HK1, HO_7, HB⟩ := hrel
        cases gk with
        | zero => exact absurd HA.out (by simp [fairleadlaw09_LexLies.l0])
        | succ k1 =>
          have H := HA.out
          clear HA
          simp only [fairleadlaw09_LexLies.l0] at H
          by_cases c23 : x11_1 < (t187.length : Int)
          · rw [if_pos c23] at H
            have c23b0 : decide (x11_1 < (t187.length : Int)) = true := decide_eq_true c23
            clear c23
            by_cases c24 : 0 ≤ x11_1
            · rw [if_pos c24] at H
              have c24b0 : decide (0 ≤ x11_1) = true := decide_eq_true c24
              clear c24
              have HC25 := Aside0.mk H
              clear H
              obtain ⟨Ao26, co26, eo26⟩ := Kd.R_slice HO_7.out
              subst eo26
              have p193 : 0 ≤ (x11_1 : Int) := of_decide_eq_true (by first | (with_reducible assumption) | assumption)
              have q193 : x11_1 < (t187.length : Int) := of_decide_eq_true (by first | (with_reducible assumption) | assumption)
              obtain ⟨ad193, e193, hx193_0, hx193_1, hx193_2, hx193_3⟩ := at_T31 (Kd.R_reads' HO_7.out).2.2 x11_1 p193 q193
              cases e193
              replace p193 := eq_true p193
              replace q193 := eq_true q193
              go_upto_region 13 with (first | ((with_reducible refine gate_dst (N := 12) rfl ?_); (try (refine gate_guard (by rfl) ?_; dsimp only)); refine box_event ?hg (N := 12) ?hd (cs := #[.int .i64 0, .int .i64 0, .string (⟨#[]⟩ : ByteArray), .int .u64 0]) (t := 31) ?hr ?_; (case hd => rfl); (case hg => rfl); (case hr => first | (go_simp; done) | (go_simp; rfl)); intro gb194 hg w27 hbox hb; have n0_ := Aside0.mk (Kd.R_below (Kd.R_elderB (by (with_reducible repeat (first | apply Kd.R_alloc | apply Kd.R_drewN | apply Kd.R_drew)); exact HO_7.out) gb194 (Nat.le_of_eq hg.symm)) hb); have n1_ := Aside0.mk (below_step (by repeat (first | (with_reducible first | exact HB.out | apply below_alloc | apply pw_below_drewN | apply below_drew1) | exact HB.out)) hb); have n2_ := Aside0.mk (hbox); have n3_ := Aside0.mk ((by rw [hg]; exact (below_size (by repeat (first | (with_reducible first | exact HB.out | apply below_alloc | apply pw_below_drewN | apply below_drew1) | exact HB.out))) : w.heap.size ≤ gb194)); have n4_ := Aside0.mk ((by rw [hg]; exact (below_size (by repeat (first | (with_reducible first | exact HB.out | apply below_alloc | apply pw_below_drewN | apply below_drew1) | exact HB.out))) : w.heap.size ≤ gb194)); clear HO_7; clear HB; have HO_7 := n0_; have HB := n1_; have BK194 := n2_; have GW194 := n3_; have GE194 := n4_; clear n0_ n1_ n2_ n3_ n4_; clear hb hbox hg; have hcz28_0 : w27.cell? ⟨gb194, 0, none⟩ = some (.int .i64 0) := (blk_cell BK194.out 0).trans rfl; have hcz28_1 : w27.cell? ⟨gb194, 1, none⟩ = some (.int .i64 0) := (blk_cell BK194.out 1).trans rfl; have hcz28_2 : w27.cell? ⟨gb194, 2, none⟩ = some (.string (⟨#[]⟩ : ByteArray)) := (blk_cell BK194.out 2).trans rfl; have hcz28_3 : w27.cell? ⟨gb194, 3, none⟩ = some (.int .u64 0) := (blk_cell BK194.out 3).trans rfl; have hfz28_0 := blk_frozen BK194.out 0; have hfz28_1 := blk_frozen BK194.out 1; have hfz28_2 := blk_frozen BK194.out 2; have hfz28_3 := blk_frozen BK194.out 3))
              repeat (go_quiet (first | ((with_reducible refine gate_dst (N := 12) rfl ?_); (try (refine gate_guard (by rfl) ?_; dsimp only)); refine box_event ?hg (N := 12) ?hd (cs := #[.int .i64 0, .int .i64 0, .string (⟨#[]⟩ : ByteArray), .int .u64 0]) (t := 31) ?hr ?_; (case hd => rfl); (case hg => rfl); (case hr => first | (go_simp; done) | (go_simp; rfl)); intro gb194 hg w27 hbox hb; have n0_ := Aside0.mk (Kd.R_below (Kd.R_elderB (by (with_reducible repeat (first | apply Kd.R_alloc | apply Kd.R_drewN | apply Kd.R_drew)); exact HO_7.out) gb194 (Nat.le_of_eq hg.symm)) hb); have n1_ := Aside0.mk (below_step (by repeat (first | (with_reducible first | exact HB.out | apply below_alloc | apply pw_below_drewN | apply below_drew1) | exact HB.out)) hb); have n2_ := Aside0.mk (hbox); have n3_ := Aside0.mk ((by rw [hg]; exact (below_size (by repeat (first | (with_reducible first | exact HB.out | apply below_alloc | apply pw_below_drewN | apply below_drew1) | exact HB.out))) : w.heap.size ≤ gb194)); have n4_ := Aside0.mk ((by rw [hg]; exact (below_size (by repeat (first | (with_reducible first | exact HB.out | apply below_alloc | apply pw_below_drewN | apply below_drew1) | exact HB.out))) : w.heap.size ≤ gb194)); clear HO_7; clear HB; have HO_7 := n0_; have HB := n1_; have BK194 := n2_; have GW194 := n3_; have GE194 := n4_; clear n0_ n1_ n2_ n3_ n4_; clear hb hbox hg; have hcz28_0 : w27.cell? ⟨gb194, 0, none⟩ = some (.int .i64 0) := (blk_cell BK194.out 0).trans rfl; have hcz28_1 : w27.cell? ⟨gb194, 1, none⟩ = some (.int .i64 0) := (blk_cell BK194.out 1).trans rfl; have hcz28_2 : w27.cell? ⟨gb194, 2, none⟩ = some (.string (⟨#[]⟩ : ByteArray)) := (blk_cell BK194.out 2).trans rfl; have hcz28_3 : w27.cell? ⟨gb194, 3, none⟩ = some (.int .u64 0) := (blk_cell BK194.out 3).trans rfl; have hfz28_0 := blk_frozen BK194.out 0; have hfz28_1 := blk_frozen BK194.out 1; have hfz28_2 := blk_frozen BK194.out 2; have hfz28_3 := blk_frozen BK194.out 3)); go_upto_region 13 with (first | ((with_reducible refine gate_dst (N := 12) rfl ?_); (try (refine gate_guard (by rfl) ?_; dsimp only)); refine box_event ?hg (N := 12) ?hd (cs := #[.int .i64 0, .int .i64 0, .string (⟨#[]⟩ : ByteArray), .int .u64 0]) (t := 31) ?hr ?_; (case hd => rfl); (case hg => rfl); (case hr => first | (go_simp; done) | (go_simp; rfl)); intro gb194 hg w27 hbox hb; have n0_ := Aside0.mk (Kd.R_below (Kd.R_elderB (by (with_reducible repeat (first | apply Kd.R_alloc | apply Kd.R_drewN | apply Kd.R_drew)); exact HO_7.out) gb194 (Nat.le_of_eq hg.symm)) hb); have n1_ := Aside0.mk (below_step (by repeat (first | (with_reducible first | exact HB.out | apply below_alloc | apply pw_below_drewN | apply below_drew1) | exact HB.out)) hb); have n2_ := Aside0.mk (hbox); have n3_ := Aside0.mk ((by rw [hg]; exact (below_size (by repeat (first | (with_reducible first | exact HB.out | apply below_alloc | apply pw_below_drewN | apply below_drew1) | exact HB.out))) : w.heap.size ≤ gb194)); have n4_ := Aside0.mk ((by rw [hg]; exact (below_size (by repeat (first | (with_reducible first | exact HB.out | apply below_alloc | apply pw_below_drewN | apply below_drew1) | exact HB.out))) : w.heap.size ≤ gb194)); clear HO_7; clear HB; have HO_7 := n0_; have HB := n1_; have BK194 := n2_; have GW194 := n3_; have GE194 := n4_; clear n0_ n1_ n2_ n3_ n4_; clear hb hbox hg; have hcz28_0 : w27.cell? ⟨gb194, 0, none⟩ = some (.int .i64 0) := (blk_cell BK194.out 0).trans rfl; have hcz28_1 : w27.cell? ⟨gb194, 1, none⟩ = some (.int .i64 0) := (blk_cell BK194.out 1).trans rfl; have hcz28_2 : w27.cell? ⟨gb194, 2, none⟩ = some (.string (⟨#[]⟩ : ByteArray)) := (blk_cell BK194.out 2).trans rfl; have hcz28_3 : w27.cell? ⟨gb194, 3, none⟩ = some (.int .u64 0) := (blk_cell BK194.out 3).trans rfl; have hfz28_0 := blk_frozen BK194.out 0; have hfz28_1 := blk_frozen BK194.out 1; have hfz28_2 := blk_frozen BK194.out 2; have hfz28_3 := blk_frozen BK194.out 3)))
              (try simp only [Act.put, List.setIfInBounds_toArray, List.set_cons_zero, List.set_cons_succ])
              go_cut [115] (fun v115 wc => ∃ (kq : Nat) (x115_24 : Bool), v115 = .bool x115_24 ∧ Aside0 (fairleadlaw09_LexLies.j1 kq a0 t181 t187 t189 x11_1 x115_24 ((rd_T31 t187 x11_1).f0) ((rd_T31 t187 x11_1).f1) ((rd_T31 t187 x11_1).f2) ((rd_T31 t187 x11_1).f3) = some r) ∧ Aside0 (kq ≤ k1) ∧ Aside0 (Kd.R k31 31 wc w.heap.size (fun k_ => k_ ≠ gb194) (.slice (some ad193) t187.length co26) t187) ∧ Aside0 (wc.heap[gb194]? = some (.cells #[.int .i64 ((rd_T31 t187 x11_1).f0), .int .i64 ((rd_T31 t187 x11_1).f1), .string ((rd_T31 t187 x11_1).f2), .int .u64 ((rd_T31 t187 x11_1).f3)] 31 (0, 0))) ∧ Aside0 (Below w.heap.size w wc))
              case first =>
                have H := HC25.out
                clear HC25
                by_cases c29 : ((rd_T31 t187 x11_1).f1) < x10_1
                · rw [if_pos c29] at H
                  have c29b0 : decide (((rd_T31 t187 x11_1).f1) < x10_1) = true := decide_eq_true c29
                  clear c29
                  (first | rw [c29b0] | (simp only [i64_w, i32_w]; rw [c29b0]) | skip)
                  have H' := Aside0.mk H
                  clear H
                  have hcz30_0 : w27.cell? ⟨gb194, 0, none⟩ = some (.int .i64 0) := (blk_cell BK194.out 0).trans rfl
                  have hcz30_1 : w27.cell? ⟨gb194, 1, none⟩ = some (.int .i64 0) := (blk_cell BK194.out 1).trans rfl
                  have hcz30_2 : w27.cell? ⟨gb194, 2, none⟩ = some (.string (⟨#[]⟩ : ByteArray)) := (blk_cell BK194.out 2).trans rfl
                  have hcz30_3 : w27.cell? ⟨gb194, 3, none⟩ = some (.int .u64 0) := (blk_cell BK194.out 3).trans rfl
                  have hfz30_0 := blk_frozen BK194.out 0
                  have hfz30_1 := blk_frozen BK194.out 1
                  have hfz30_2 := blk_frozen BK194.out 2
                  have hfz30_3 := blk_frozen BK194.out 3
                  go_wp2
                  repeat (go_quiet (fail); try go_wp2)
                  go_meet
                  case rel => exact ⟨_, (true), (by first | rfl | (simp; done) | (simp [*]; done)), H', ⟨by have := HK1.out; first | omega | exact Nat.le_refl _⟩, ⟨by (with_reducible repeat (first | apply Kd.R_alloc | apply Kd.R_drewN | apply Kd.R_drew)); exact Kd.R_mono (Kd.R_far (p := ⟨gb194, 3, none⟩) (Kd.R_far (p := ⟨gb194, 2, none⟩) (Kd.R_far (p := ⟨gb194, 1, none⟩) (Kd.R_far (p := ⟨gb194, 0, none⟩) (Kd.R_mono HO_7.out (fun k_ hk => (⟨hk, hk.2⟩ : _ ∧ k_ ≠ gb194))) (fun _ hk => by first | exact hk.2 | exact hk | exact trivial) (.int .i64 ((rd_T31 t187 x11_1).f0))) (fun _ hk => by first | exact hk.2 | exact hk | exact trivial) (.int .i64 ((rd_T31 t187 x11_1).f1))) (fun _ hk => by first | exact hk.2 | exact hk | exact trivial) (.string ((rd_T31 t187 x11_1).f2))) (fun _ hk => by first | exact hk.2 | exact hk | exact trivial) (.int .u64 ((rd_T31 t187 x11_1).f3))) (fun _ hk => hk.1.2)⟩, ⟨by (with_reducible repeat (first | refine blk_drewN ?_ _ | refine blk_drew ?_ | refine blk_alloc ?_ _)); refine blk_put (cs := #[.int .i64 ((rd_T31 t187 x11_1).f0), .int .i64 ((rd_T31 t187 x11_1).f1), .string ((rd_T31 t187 x11_1).f2), .int .u64 0]) ?_ 3 _ rfl; (with_reducible repeat (first | refine blk_drewN ?_ _ | refine blk_drew ?_ | refine blk_alloc ?_ _)); refine blk_put (cs := #[.int .i64 ((rd_T31 t187 x11_1).f0), .int .i64 ((rd_T31 t187 x11_1).f1), .string (⟨#[]⟩ : ByteArray), .int .u64 0]) ?_ 2 _ rfl; (with_reducible repeat (first | refine blk_drewN ?_ _ | refine blk_drew ?_ | refine blk_alloc ?_ _)); refine blk_put (cs := #[.int .i64 ((rd_T31 t187 x11_1).f0), .int .i64 0, .string (⟨#[]⟩ : ByteArray), .int .u64 0]) ?_ 1 _ rfl; (with_reducible repeat (first | refine blk_drewN ?_ _ | refine blk_drew ?_ | refine blk_alloc ?_ _)); refine blk_put (cs := #[.int .i64 0, .int .i64 0, .string (⟨#[]⟩ : ByteArray), .int .u64 0]) ?_ 0 _ rfl; (with_reducible repeat (first | refine blk_drewN ?_ _ | refine blk_drew ?_ | refine blk_alloc ?_ _)); exact BK194.out⟩, ⟨by repeat (first | (with_reducible first | exact HB.out | apply below_alloc | apply pw_below_drewN | apply below_drew1 | refine below_set ?_ GE194.out) | exact HB.out)⟩⟩
                · rw [if_neg c29] at H
                  have c29b0 : decide (((rd_T31 t187 x11_1).f1) < x10_1) = false := decide_eq_false c29
                  clear c29
                  (first | rw [c29b0] | (simp only [i64_w, i32_w]; rw [c29b0]) | skip)
                  by_cases c31 : ((rd_T31 t187 x11_1).f1) > (a0.size : Int)
                  · rw [if_pos c31] at H
                    have c31b0 : decide ((a0.size : Int) < ((rd_T31 t187 x11_1).f1)) = true := decide_eq_true c31
                    clear c31
                    have H' := Aside0.mk H
                    clear H
                    have hcz32_0 : w27.cell? ⟨gb194, 0, none⟩ = some (.int .i64 0) := (blk_cell BK194.out 0).trans rfl
                    have hcz32_1 : w27.cell? ⟨gb194, 1, none⟩ = some (.int .i64 0) := (blk_cell BK194.out 1).trans rfl
                    have hcz32_2 : w27.cell? ⟨gb194, 2, none⟩ = some (.string (⟨#[]⟩ : ByteArray)) := (blk_cell BK194.out 2).trans rfl
                    have hcz32_3 : w27.cell? ⟨gb194, 3, none⟩ = some (.int .u64 0) := (blk_cell BK194.out 3).trans rfl
                    have hfz32_0 := blk_frozen BK194.out 0
                    have hfz32_1 := blk_frozen BK194.out 1
                    have hfz32_2 := blk_frozen BK194.out 2
                    have hfz32_3 := blk_frozen BK194.out 3
                    go_wp2
                    repeat (go_quiet (fail); try go_wp2)
                    go_meet
                    case rel => exact ⟨_, (true), (by first | rfl | (simp; done) | (simp [*]; done)), H', ⟨by have := HK1.out; first | omega | exact Nat.le_refl _⟩, ⟨by (with_reducible repeat (first | apply Kd.R_alloc | apply Kd.R_drewN | apply Kd.R_drew)); exact Kd.R_mono (Kd.R_far (p := ⟨gb194, 3, none⟩) (Kd.R_far (p := ⟨gb194, 2, none⟩) (Kd.R_far (p := ⟨gb194, 1, none⟩) (Kd.R_far (p := ⟨gb194, 0, none⟩) (Kd.R_mono HO_7.out (fun k_ hk => (⟨hk, hk.2⟩ : _ ∧ k_ ≠ gb194))) (fun _ hk => by first | exact hk.2 | exact hk | exact trivial) (.int .i64 ((rd_T31 t187 x11_1).f0))) (fun _ hk => by first | exact hk.2 | exact hk | exact trivial) (.int .i64 ((rd_T31 t187 x11_1).f1))) (fun _ hk => by first | exact hk.2 | exact hk | exact trivial) (.string ((rd_T31 t187 x11_1).f2))) (fun _ hk => by first | exact hk.2 | exact hk | exact trivial) (.int .u64 ((rd_T31 t187 x11_1).f3))) (fun _ hk => hk.1.2)⟩, ⟨by (with_reducible repeat (first | refine blk_drewN ?_ _ | refine blk_drew ?_ | refine blk_alloc ?_ _)); refine blk_put (cs := #[.int .i64 ((rd_T31 t187 x11_1).f0), .int .i64 ((rd_T31 t187 x11_1).f1), .string ((rd_T31 t187 x11_1).f2), .int .u64 0]) ?_ 3 _ rfl; (with_reducible repeat (first | refine blk_drewN ?_ _ | refine blk_drew ?_ | refine blk_alloc ?_ _)); refine blk_put (cs := #[.int .i64 ((rd_T31 t187 x11_1).f0), .int .i64 ((rd_T31 t187 x11_1).f1), .string (⟨#[]⟩ : ByteArray), .int .u64 0]) ?_ 2 _ rfl; (with_reducible repeat (first | refine blk_drewN ?_ _ | refine blk_drew ?_ | refine blk_alloc ?_ _)); refine blk_put (cs := #[.int .i64 ((rd_T31 t187 x11_1).f0), .int .i64 0, .string (⟨#[]⟩ : ByteArray), .int .u64 0]) ?_ 1 _ rfl; (with_reducible repeat (first | refine blk_drewN ?_ _ | refine blk_drew ?_ | refine blk_alloc ?_ _)); refine blk_put (cs := #[.int .i64 0, .int .i64 0, .string (⟨#[]⟩ : ByteArray), .int .u64 0]) ?_ 0 _ rfl; (with_reducible repeat (first | refine blk_drewN ?_ _ | refine blk_drew ?_ | refine blk_alloc ?_ _)); exact BK194.out⟩, ⟨by repeat (first | (with_reducible first | exact HB.out | apply below_alloc | apply pw_below_drewN | apply below_drew1 | refine below_set ?_ GE194.out) | exact HB.out)⟩⟩
                  · rw [if_neg c31] at H
                    have c31b0 : decide ((a0.size : Int) < ((rd_T31 t187 x11_1).f1)) = false := decide_eq_false c31
                    clear c31
                    by_cases c33 : (((rd_T31 t187 x11_1).f2).size : Int) > (wrap64 ((a0.size : Int) - ((rd_T31 t187 x11_1).f1)))
                    · rw [if_pos c33] at H
                      have c33b0 : decide ((wrap64 ((a0.size : Int) - ((rd_T31 t187 x11_1).f1))) < (((rd_T31 t187 x11_1).f2).size : Int)) = true := decide_eq_true c33
                      clear c33
                      have H' := Aside0.mk H
                      clear H
                      have hcz34_0 : w27.cell? ⟨gb194, 0, none⟩ = some (.int .i64 0) := (blk_cell BK194.out 0).trans rfl
                      have hcz34_1 : w27.cell? ⟨gb194, 1, none⟩ = some (.int .i64 0) := (blk_cell BK194.out 1).trans rfl
                      have hcz34_2 : w27.cell? ⟨gb194, 2, none⟩ = some (.string (⟨#[]⟩ : ByteArray)) := (blk_cell BK194.out 2).trans rfl
                      have hcz34_3 : w27.cell? ⟨gb194, 3, none⟩ = some (.int .u64 0) := (blk_cell BK194.out 3).trans rfl
                      have hfz34_0 := blk_frozen BK194.out 0
                      have hfz34_1 := blk_frozen BK194.out 1
                      have hfz34_2 := blk_frozen BK194.out 2
                      have hfz34_3 := blk_frozen BK194.out 3
                      go_wp2
                      repeat (go_quiet (fail); try go_wp2)
                      go_meet
                      case rel => exact ⟨_, (true), (by first | rfl | (simp; done) | (simp [*]; done)), H', ⟨by have := HK1.out; first | omega | exact Nat.le_refl _⟩, ⟨by (with_reducible repeat (first | apply Kd.R_alloc | apply Kd.R_drewN | apply Kd.R_drew)); exact Kd.R_mono (Kd.R_far (p := ⟨gb194, 3, none⟩) (Kd.R_far (p := ⟨gb194, 2, none⟩) (Kd.R_far (p := ⟨gb194, 1, none⟩) (Kd.R_far (p := ⟨gb194, 0, none⟩) (Kd.R_mono HO_7.out (fun k_ hk => (⟨hk, hk.2⟩ : _ ∧ k_ ≠ gb194))) (fun _ hk => by first | exact hk.2 | exact hk | exact trivial) (.int .i64 ((rd_T31 t187 x11_1).f0))) (fun _ hk => by first | exact hk.2 | exact hk | exact trivial) (.int .i64 ((rd_T31 t187 x11_1).f1))) (fun _ hk => by first | exact hk.2 | exact hk | exact trivial) (.string ((rd_T31 t187 x11_1).f2))) (fun _ hk => by first | exact hk.2 | exact hk | exact trivial) (.int .u64 ((rd_T31 t187 x11_1).f3))) (fun _ hk => hk.1.2)⟩, ⟨by (with_reducible repeat (first | refine blk_drewN ?_ _ | refine blk_drew ?_ | refine blk_alloc ?_ _)); refine blk_put (cs := #[.int .i64 ((rd_T31 t187 x11_1).f0), .int .i64 ((rd_T31 t187 x11_1).f1), .string ((rd_T31 t187 x11_1).f2), .int .u64 0]) ?_ 3 _ rfl; (with_reducible repeat (first | refine blk_drewN ?_ _ | refine blk_drew ?_ | refine blk_alloc ?_ _)); refine blk_put (cs := #[.int .i64 ((rd_T31 t187 x11_1).f0), .int .i64 ((rd_T31 t187 x11_1).f1), .string (⟨#[]⟩ : ByteArray), .int .u64 0]) ?_ 2 _ rfl; (with_reducible repeat (first | refine blk_drewN ?_ _ | refine blk_drew ?_ | refine blk_alloc ?_ _)); refine blk_put (cs := #[.int .i64 ((rd_T31 t187 x11_1).f0), .int .i64 0, .string (⟨#[]⟩ : ByteArray), .int .u64 0]) ?_ 1 _ rfl; (with_reducible repeat (first | refine blk_drewN ?_ _ | refine blk_drew ?_ | refine blk_alloc ?_ _)); refine blk_put (cs := #[.int .i64 0, .int .i64 0, .string (⟨#[]⟩ : ByteArray), .int .u64 0]) ?_ 0 _ rfl; (with_reducible repeat (first | refine blk_drewN ?_ _ | refine blk_drew ?_ | refine blk_alloc ?_ _)); exact BK194.out⟩, ⟨by repeat (first | (with_reducible first | exact HB.out | apply below_alloc | apply pw_below_drewN | apply below_drew1 | refine below_set ?_ GE194.out) | exact HB.out)⟩⟩
                    · rw [if_neg c33] at H
                      have c33b0 : decide ((wrap64 ((a0.size : Int) - ((rd_T31 t187 x11_1).f1))) < (((rd_T31 t187 x11_1).f2).size : Int)) = false := decide_eq_false c33
                      clear c33
                      by_cases c35 : 0 ≤ ((rd_T31 t187 x11_1).f1)
                      · rw [if_pos c35] at H
                        have c35b0 := eq_true c35
                        have c35b1 : decide (0 ≤ ((rd_T31 t187 x11_1).f1)) = true := decide_eq_true c35
                        clear c35
                        by_cases c36 : ((rd_T31 t187 x11_1).f1) ≤ (wrap64 (((rd_T31 t187 x11_1).f1) + (((rd_T31 t187 x11_1).f2).size : Int)))
                        · rw [if_pos c36] at H
                          have c36b0 := eq_true c36
                          have c36b1 : decide (((rd_T31 t187 x11_1).f1) ≤ (wrap64 (((rd_T31 t187 x11_1).f1) + (((rd_T31 t187 x11_1).f2).size : Int)))) = true := decide_eq_true c36
                          by_cases c37 : (wrap64 (((rd_T31 t187 x11_1).f1) + (((rd_T31 t187 x11_1).f2).size : Int))) ≤ (a0.size : Int)
                          · rw [if_pos c37] at H
                            have c37b0 := eq_true c37
                            have c37b1 : decide ((wrap64 (((rd_T31 t187 x11_1).f1) + (((rd_T31 t187 x11_1).f2).size : Int))) ≤ (a0.size : Int)) = true := decide_eq_true c37
                            have H' := Aside0.mk H
                            clear H
                            have hcz38_0 : w27.cell? ⟨gb194, 0, none⟩ = some (.int .i64 0) := (blk_cell BK194.out 0).trans rfl
                            have hcz38_1 : w27.cell? ⟨gb194, 1, none⟩ = some (.int .i64 0) := (blk_cell BK194.out 1).trans rfl
                            have hcz38_2 : w27.cell? ⟨gb194, 2, none⟩ = some (.string (⟨#[]⟩ : ByteArray)) := (blk_cell BK194.out 2).trans rfl
                            have hcz38_3 : w27.cell? ⟨gb194, 3, none⟩ = some (.int .u64 0) := (blk_cell BK194.out 3).trans rfl
                            have hfz38_0 := blk_frozen BK194.out 0
                            have hfz38_1 := blk_frozen BK194.out 1
                            have hfz38_2 := blk_frozen BK194.out 2
                            have hfz38_3 := blk_frozen BK194.out 3
                            go_wp2
                            repeat (go_quiet (fail); try go_wp2)
                            go_meet
                            case rel => exact ⟨_, (((a0.extract (((rd_T31 t187 x11_1).f1) : Int).toNat ((wrap64 (((rd_T31 t187 x11_1).f1) + (((rd_T31 t187 x11_1).f2).size : Int))) : Int).toNat).toList != ((rd_T31 t187 x11_1).f2).toList)), (by first | rfl | (simp; done) | (simp [*]; done)), H', ⟨by have := HK1.out; first | omega | exact Nat.le_refl _⟩, ⟨by (with_reducible repeat (first | apply Kd.R_alloc | apply Kd.R_drewN | apply Kd.R_drew)); exact Kd.R_mono (Kd.R_far (p := ⟨gb194, 3, none⟩) (Kd.R_far (p := ⟨gb194, 2, none⟩) (Kd.R_far (p := ⟨gb194, 1, none⟩) (Kd.R_far (p := ⟨gb194, 0, none⟩) (Kd.R_mono HO_7.out (fun k_ hk => (⟨hk, hk.2⟩ : _ ∧ k_ ≠ gb194))) (fun _ hk => by first | exact hk.2 | exact hk | exact trivial) (.int .i64 ((rd_T31 t187 x11_1).f0))) (fun _ hk => by first | exact hk.2 | exact hk | exact trivial) (.int .i64 ((rd_T31 t187 x11_1).f1))) (fun _ hk => by first | exact hk.2 | exact hk | exact trivial) (.string ((rd_T31 t187 x11_1).f2))) (fun _ hk => by first | exact hk.2 | exact hk | exact trivial) (.int .u64 ((rd_T31 t187 x11_1).f3))) (fun _ hk => hk.1.2)⟩, ⟨by (with_reducible repeat (first | refine blk_drewN ?_ _ | refine blk_drew ?_ | refine blk_alloc ?_ _)); refine blk_put (cs := #[.int .i64 ((rd_T31 t187 x11_1).f0), .int .i64 ((rd_T31 t187 x11_1).f1), .string ((rd_T31 t187 x11_1).f2), .int .u64 0]) ?_ 3 _ rfl; (with_reducible repeat (first | refine blk_drewN ?_ _ | refine blk_drew ?_ | refine blk_alloc ?_ _)); refine blk_put (cs := #[.int .i64 ((rd_T31 t187 x11_1).f0), .int .i64 ((rd_T31 t187 x11_1).f1), .string (⟨#[]⟩ : ByteArray), .int .u64 0]) ?_ 2 _ rfl; (with_reducible repeat (first | refine blk_drewN ?_ _ | refine blk_drew ?_ | refine blk_alloc ?_ _)); refine blk_put (cs := #[.int .i64 ((rd_T31 t187 x11_1).f0), .int .i64 0, .string (⟨#[]⟩ : ByteArray), .int .u64 0]) ?_ 1 _ rfl; (with_reducible repeat (first | refine blk_drewN ?_ _ | refine blk_drew ?_ | refine blk_alloc ?_ _)); refine blk_put (cs := #[.int .i64 0, .int .i64 0, .string (⟨#[]⟩ : ByteArray), .int .u64 0]) ?_ 0 _ rfl; (with_reducible repeat (first | refine blk_drewN ?_ _ | refine blk_drew ?_ | refine blk_alloc ?_ _)); exact BK194.out⟩, ⟨by repeat (first | (with_reducible first | exact HB.out | apply below_alloc | apply pw_below_drewN | apply below_drew1 | refine below_set ?_ GE194.out) | exact HB.out)⟩⟩
                          · rw [if_neg c37] at H
                            exact absurd H (by simp)
                        · rw [if_neg c36] at H
                          exact absurd H (by simp)
                      · rw [if_neg c35] at H
                        exact absurd H (by simp)
              case rest =>
                clear HC25
                try clear p1
                try clear q1
                try clear hx1
                try clear c2
                try clear p2
                try clear c3
                try clear c3b0
                try clear c3b1
                try clear c5
                try clear c6
                try clear c6b0
                try clear c6b1
                try clear c6b2
                try clear p6
                try clear c7
                try clear c7b0
                try clear c7b1
                try clear p19
                try clear q19
                try clear hx19
                try clear c20
                try clear c20b0
                try clear c20b1
                try clear c23
                try clear c23b0
                try clear c24
                try clear c24b0
                try clear c29
                try clear c29b0
                try clear c31
                try clear c31b0
                try clear c33
                try clear c33b0
                try clear c35
                try clear c35b0
                try clear c35b1
                try clear c36
                try clear c36b0
                try clear c36b1
                try clear c37
                try clear c37b0
                try clear c37b1
                try clear hcz28_0
                try clear hcz28_1
                try clear hcz28_2
                try clear hcz28_3
                try clear hcz30_0
                try clear hcz30_1
                try clear hcz30_2
                try clear hcz30_3
                try clear hcz32_0
                try clear hcz32_1
                try clear hcz32_2
                try clear hcz32_3
                try clear hcz34_0
                try clear hcz34_1
                try clear hcz34_2
                try clear hcz34_3
                try clear hcz38_0
                try clear hcz38_1
                try clear hcz38_2
                try clear hcz38_3
                try clear hfz28_0
                try clear hfz28_1
                try clear hfz28_2
                try clear hfz28_3
                try clear hfz30_0
                try clear hfz30_1
                try clear hfz30_2
                try clear hfz30_3
                try clear hfz32_0
                try clear hfz32_1
                try clear hfz32_2
                try clear hfz32_3
                try clear hfz34_0
                try clear hfz34_1
                try clear hfz34_2
                try clear hfz34_3
                try clear hfz38_0
                try clear hfz38_1
                try clear hfz38_2
                try clear hfz38_3
                try clear hx193_0
                try clear hx193_1
                try clear hx193_2
                try clear hx193_3
                try clear p193
                try clear p2
                try clear q193
                obtain ⟨kq, x115_24, rfl, HA, HJ24, HO_7, BK194, HB⟩ := hcut
                cases kq with
                | zero => exact absurd HA.out (by simp [fairleadlaw09_LexLies.j1])
                | succ kj24 =>
                  have H := HA.out
                  clear HA
                  simp only [fairleadlaw09_LexLies.j1] at H
                  by_cases c39 : x115_24 = true
                  · subst c39
                    have H1 : (some false) = some r := by rw [if_pos rfl] at H; exact H
                    clear H
                    have H := H1
                    clear H1
                    obtain rfl := Option.some.inj H
                    go_wp2
                    repeat (go_quiet (fail); try go_wp2)
                    go_ret
                    exact ⟨by first | rfl | (simp [errW_none, errW_some] <;> rfl) | (simp [*, errW_none, errW_some] <;> rfl), by repeat (first | (with_reducible first | exact HB.out | apply below_alloc | apply pw_below_drewN | apply below_drew1 | refine below_set ?_ GE194.out) | exact HB.out)⟩
                  · replace c39 := Bool.eq_false_iff.mpr c39
                    subst c39
                    have H1 : (if ((((rd_T31 t187 x11_1).f0) == 4) != (x11_1 == (wrap64 ((t187.length : Int) - 1)))) = true then (some false) else (if ((((rd_T31 t187 x11_1).f2).toList == ([] : List UInt8)) != (((rd_T31 t187 x11_1).f0) == 4)) = true then (some false) else (if ((rd_T31 t187 x11_1).f3) = 0 then (fairleadlaw09_LexLies.l0 kj24 a0 t181 t187 t189 (wrap64 (((rd_T31 t187 x11_1).f1) + (((rd_T31 t187 x11_1).f2).size : Int))) (wrap64 (x11_1 + 1))) else (if ((rd_T31 t187 x11_1).f0) = 2 then (fairleadlaw09_LexLies.l0 kj24 a0 t181 t187 t189 (wrap64 (((rd_T31 t187 x11_1).f1) + (((rd_T31 t187 x11_1).f2).size : Int))) (wrap64 (x11_1 + 1))) else (some false))))) = some r := by rw [if_neg (show ¬ (false = true) by decide)] at H; exact H
                    clear H
                    have H := H1
                    clear H1
                    by_cases c40 : ((((rd_T31 t187 x11_1).f0) == 4) != (x11_1 == (wrap64 ((t187.length : Int) - 1)))) = true
                    · rw [if_pos c40] at H
                      have c40b0 : ((((rd_T31 t187 x11_1).f0) == 4) != (x11_1 == (wrap64 ((t187.length : Int) - 1)))) = true := c40
                      (try (have c40b1 : decide ((((rd_T31 t187 x11_1).f0) == 4) = (x11_1 == (wrap64 ((t187.length : Int) - 1)))) = false := by simpa using c40))
                      (try (have c40b2 : ((((rd_T31 t187 x11_1).f0) == 4) == (x11_1 == (wrap64 ((t187.length : Int) - 1)))) = false := by simpa using c40))
                      (try (have c40b3 : ¬ ((((rd_T31 t187 x11_1).f0) == 4) = (x11_1 == (wrap64 ((t187.length : Int) - 1)))) := by simpa using c40))
                      clear c40
                      obtain rfl := Option.some.inj H
                      have hcz41_0 : wc.cell? ⟨gb194, 0, none⟩ = some (.int .i64 ((rd_T31 t187 x11_1).f0)) := (blk_cell BK194.out 0).trans rfl
                      have hcz41_1 : wc.cell? ⟨gb194, 1, none⟩ = some (.int .i64 ((rd_T31 t187 x11_1).f1)) := (blk_cell BK194.out 1).trans rfl
                      have hcz41_2 : wc.cell? ⟨gb194, 2, none⟩ = some (.string ((rd_T31 t187 x11_1).f2)) := (blk_cell BK194.out 2).trans rfl
                      have hcz41_3 : wc.cell? ⟨gb194, 3, none⟩ = some (.int .u64 ((rd_T31 t187 x11_1).f3)) := (blk_cell BK194.out 3).trans rfl
                      have hfz41_0 := blk_frozen BK194.out 0
                      have hfz41_1 := blk_frozen BK194.out 1
                      have hfz41_2 := blk_frozen BK194.out 2
                      have hfz41_3 := blk_frozen BK194.out 3
                      go_wp2
                      repeat (go_quiet (fail); try go_wp2)
                      go_ret
                      exact ⟨by first | rfl | (simp [errW_none, errW_some] <;> rfl) | (simp [*, errW_none, errW_some] <;> rfl), by repeat (first | (with_reducible first | exact HB.out | apply below_alloc | apply pw_below_drewN | apply below_drew1 | refine below_set ?_ GE194.out) | exact HB.out)⟩
                    · rw [if_neg c40] at H
                      have c40b0 : ((((rd_T31 t187 x11_1).f0) == 4) != (x11_1 == (wrap64 ((t187.length : Int) - 1)))) = false := by simpa using c40
                      (try (have c40b1 : decide ((((rd_T31 t187 x11_1).f0) == 4) = (x11_1 == (wrap64 ((t187.length : Int) - 1)))) = true := by simpa using c40))
                      (try (have c40b2 : ((((rd_T31 t187 x11_1).f0) == 4) == (x11_1 == (wrap64 ((t187.length : Int) - 1)))) = true := by simpa using c40))
                      clear c40
                      by_cases c42 : ((((rd_T31 t187 x11_1).f2).toList == ([] : List UInt8)) != (((rd_T31 t187 x11_1).f0) == 4)) = true
                      · rw [if_pos c42] at H
                        have c42b0 : ((((rd_T31 t187 x11_1).f2).toList == ([] : List UInt8)) != (((rd_T31 t187 x11_1).f0) == 4)) = true := c42
                        (try (have c42b1 : decide ((((rd_T31 t187 x11_1).f2).toList == ([] : List UInt8)) = (((rd_T31 t187 x11_1).f0) == 4)) = false := by simpa using c42))
                        (try (have c42b2 : ((((rd_T31 t187 x11_1).f2).toList == ([] : List UInt8)) == (((rd_T31 t187 x11_1).f0) == 4)) = false := by simpa using c42))
                        (try (have c42b3 : ¬ ((((rd_T31 t187 x11_1).f2).toList == ([] : List UInt8)) = (((rd_T31 t187 x11_1).f0) == 4)) := by simpa using c42))
                        (try (have c42e3 : ¬ ((((rd_T31 t187 x11_1).f2).toList).isEmpty = (((rd_T31 t187 x11_1).f0) == 4)) := by simpa using c42))
                        clear c42
                        obtain rfl := Option.some.inj H
                        have hcz43_0 : wc.cell? ⟨gb194, 0, none⟩ = some (.int .i64 ((rd_T31 t187 x11_1).f0)) := (blk_cell BK194.out 0).trans rfl
                        have hcz43_1 : wc.cell? ⟨gb194, 1, none⟩ = some (.int .i64 ((rd_T31 t187 x11_1).f1)) := (blk_cell BK194.out 1).trans rfl
                        have hcz43_2 : wc.cell? ⟨gb194, 2, none⟩ = some (.string ((rd_T31 t187 x11_1).f2)) := (blk_cell BK194.out 2).trans rfl
                        have hcz43_3 : wc.cell? ⟨gb194, 3, none⟩ = some (.int .u64 ((rd_T31 t187 x11_1).f3)) := (blk_cell BK194.out 3).trans rfl
                        have hfz43_0 := blk_frozen BK194.out 0
                        have hfz43_1 := blk_frozen BK194.out 1
                        have hfz43_2 := blk_frozen BK194.out 2
                        have hfz43_3 := blk_frozen BK194.out 3
                        go_wp2
                        repeat (go_quiet (fail); try go_wp2)
                        go_ret
                        exact ⟨by first | rfl | (simp [errW_none, errW_some] <;> rfl) | (simp [*, errW_none, errW_some] <;> rfl), by repeat (first | (with_reducible first | exact HB.out | apply below_alloc | apply pw_below_drewN | apply below_drew1 | refine below_set ?_ GE194.out) | exact HB.out)⟩
                      · rw [if_neg c42] at H
                        have c42b0 : ((((rd_T31 t187 x11_1).f2).toList == ([] : List UInt8)) != (((rd_T31 t187 x11_1).f0) == 4)) = false := by simpa using c42
                        (try (have c42b1 : decide ((((rd_T31 t187 x11_1).f2).toList == ([] : List UInt8)) = (((rd_T31 t187 x11_1).f0) == 4)) = true := by simpa using c42))
                        (try (have c42e1 : (((rd_T31 t187 x11_1).f2).toList).isEmpty = (((rd_T31 t187 x11_1).f0) == 4) := by simpa using c42))
                        (try (have c42b2 : ((((rd_T31 t187 x11_1).f2).toList == ([] : List UInt8)) == (((rd_T31 t187 x11_1).f0) == 4)) = true := by simpa using c42))
                        clear c42
                        by_cases c44 : ((rd_T31 t187 x11_1).f3) = 0
                        · rw [if_pos c44] at H
                          have c44b0 : (((rd_T31 t187 x11_1).f3) == 0) = true := beq_iff_eq.mpr c44
                          have c44b1 : (((rd_T31 t187 x11_1).f3) != 0) = false := bne_eq_false_iff_eq.mpr c44
                          clear c44
                          have H' := Aside0.mk H
                          clear H
                          have hcz45_0 : wc.cell? ⟨gb194, 0, none⟩ = some (.int .i64 ((rd_T31 t187 x11_1).f0)) := (blk_cell BK194.out 0).trans rfl
                          have hcz45_1 : wc.cell? ⟨gb194, 1, none⟩ = some (.int .i64 ((rd_T31 t187 x11_1).f1)) := (blk_cell BK194.out 1).trans rfl
                          have hcz45_2 : wc.cell? ⟨gb194, 2, none⟩ = some (.string ((rd_T31 t187 x11_1).f2)) := (blk_cell BK194.out 2).trans rfl
                          have hcz45_3 : wc.cell? ⟨gb194, 3, none⟩ = some (.int .u64 ((rd_T31 t187 x11_1).f3)) := (blk_cell BK194.out 3).trans rfl
                          have hfz45_0 := blk_frozen BK194.out 0
                          have hfz45_1 := blk_frozen BK194.out 1
                          have hfz45_2 := blk_frozen BK194.out 2
                          have hfz45_3 := blk_frozen BK194.out 3
                          go_wp2
                          repeat (go_quiet (fail); try go_wp2)
                          go_roundg kj24
                          case measure => have := HK1.out; have := HJ24.out; omega
                          case rel => exact ⟨(wrap64 (((rd_T31 t187 x11_1).f1) + (((rd_T31 t187 x11_1).f2).size : Int))), (wrap64 (x11_1 + 1)), (by first | rfl | (simp; done) | (simp [*]; done)), (by first | rfl | (simp; done) | (simp [*]; done)), H', ⟨by have := HK1.out; have := HJ24.out; omega⟩, ⟨by (with_reducible repeat (first | apply Kd.R_alloc | apply Kd.R_drewN | apply Kd.R_drew)); exact Kd.R_mono HO_7.out (fun _ hk => trivial)⟩, ⟨by repeat (first | (with_reducible first | exact HB.out | apply below_alloc | apply pw_below_drewN | apply below_drew1 | refine below_set ?_ GE194.out) | exact HB.out)⟩⟩
                        · rw [if_neg c44] at H
                          have c44b0 : (((rd_T31 t187 x11_1).f3) == 0) = false := beq_eq_false_iff_ne.mpr c44
                          have c44b1 : (((rd_T31 t187 x11_1).f3) != 0) = true := bne_iff_ne.mpr c44
                          by_cases c46 : ((rd_T31 t187 x11_1).f0) = 2
                          · rw [if_pos c46] at H
                            have c46b0 : (((rd_T31 t187 x11_1).f0) == 2) = true := beq_iff_eq.mpr c46
                            have c46b1 : (((rd_T31 t187 x11_1).f0) != 2) = false := bne_eq_false_iff_eq.mpr c46
                            clear c46
                            have H' := Aside0.mk H
                            clear H
                            have hcz47_0 : wc.cell? ⟨gb194, 0, none⟩ = some (.int .i64 ((rd_T31 t187 x11_1).f0)) := (blk_cell BK194.out 0).trans rfl
                            have hcz47_1 : wc.cell? ⟨gb194, 1, none⟩ = some (.int .i64 ((rd_T31 t187 x11_1).f1)) := (blk_cell BK194.out 1).trans rfl
                            have hcz47_2 : wc.cell? ⟨gb194, 2, none⟩ = some (.string ((rd_T31 t187 x11_1).f2)) := (blk_cell BK194.out 2).trans rfl
                            have hcz47_3 : wc.cell? ⟨gb194, 3, none⟩ = some (.int .u64 ((rd_T31 t187 x11_1).f3)) := (blk_cell BK194.out 3).trans rfl
                            have hfz47_0 := blk_frozen BK194.out 0
                            have hfz47_1 := blk_frozen BK194.out 1
                            have hfz47_2 := blk_frozen BK194.out 2
                            have hfz47_3 := blk_frozen BK194.out 3
                            go_wp2
                            repeat (go_quiet (fail); try go_wp2)
                            go_roundg kj24
                            case measure => have := HK1.out; have := HJ24.out; omega
                            case rel => exact ⟨(wrap64 (((rd_T31 t187 x11_1).f1) + (((rd_T31 t187 x11_1).f2).size : Int))), (wrap64 (x11_1 + 1)), (by first | rfl | (simp; done) | (simp [*]; done)), (by first | rfl | (simp; done) | (simp [*]; done)), H', ⟨by have := HK1.out; have := HJ24.out; omega⟩, ⟨by (with_reducible repeat (first | apply Kd.R_alloc | apply Kd.R_drewN | apply Kd.R_drew)); exact Kd.R_mono HO_7.out (fun _ hk => trivial)⟩, ⟨by repeat (first | (with_reducible first | exact HB.out | apply below_alloc | apply pw_below_drewN | apply below_drew1 | refine below_set ?_ GE194.out) | exact HB.out)⟩⟩
                          · rw [if_neg c46] at H
                            have c46b0 : (((rd_T31 t187 x11_1).f0) == 2) = false := beq_eq_false_iff_ne.mpr c46
                            have c46b1 : (((rd_T31 t187 x11_1).f0) != 2) = true := bne_iff_ne.mpr c46
                            obtain rfl := Option.some.inj H
                            have hcz48_0 : wc.cell? ⟨gb194, 0, none⟩ = some (.int .i64 ((rd_T31 t187 x11_1).f0)) := (blk_cell BK194.out 0).trans rfl
                            have hcz48_1 : wc.cell? ⟨gb194, 1, none⟩ = some (.int .i64 ((rd_T31 t187 x11_1).f1)) := (blk_cell BK194.out 1).trans rfl
                            have hcz48_2 : wc.cell? ⟨gb194, 2, none⟩ = some (.string ((rd_T31 t187 x11_1).f2)) := (blk_cell BK194.out 2).trans rfl
                            have hcz48_3 : wc.cell? ⟨gb194, 3, none⟩ = some (.int .u64 ((rd_T31 t187 x11_1).f3)) := (blk_cell BK194.out 3).trans rfl
                            have hfz48_0 := blk_frozen BK194.out 0
                            have hfz48_1 := blk_frozen BK194.out 1
                            have hfz48_2 := blk_frozen BK194.out 2
                            have hfz48_3 := blk_frozen BK194.out 3
                            go_wp2
                            repeat (go_quiet (fail); try go_wp2)
                            go_ret
                            exact ⟨by first | rfl | (simp [errW_none, errW_some] <;> rfl) | (simp [*, errW_none, errW_some] <;> rfl), by repeat (first | (with_reducible first | exact HB.out | apply below_alloc | apply pw_below_drewN | apply below_drew1 | refine below_set ?_ GE194.out) | exact HB.out)⟩
            · rw [if_neg c24] at H
              exact absurd H (by simp)
          · rw [if_neg c23] at H
            have c23b0 : decide (x11_1 < (t187.length : Int)) = false := decide_eq_false c23
            clear c23
            by_cases c49 : t181 = true
            · subst c49
              have H1 : (if t189 = (-1) then (if (t187.length : Int) > 0 then (if 0 ≤ (wrap64 ((t187.length : Int) - 1)) then (if (wrap64 ((t187.length : Int) - 1)) < (t187.length : Int) then (some (((rd_T31 t187 (wrap64 ((t187.length : Int) - 1))).f1) == (a0.size : Int))) else (none)) else (none)) else (some false)) else (some false)) = some r := by rw [if_pos rfl] at H; exact H
              clear H
              have H := H1
              clear H1
              by_cases c50 : t189 = (-1)
              · rw [if_pos c50] at H
                have c50b0 : (t189 == (-1)) = true := beq_iff_eq.mpr c50
                have c50b1 : (t189 != (-1)) = false := bne_eq_false_iff_eq.mpr c50
                clear c50
                by_cases c51 : (t187.length : Int) > 0
                · rw [if_pos c51] at H
                  have c51b0 : decide (0 < (t187.length : Int)) = true := decide_eq_true c51
                  have c51b1 : decide (0 < t187.length) = true := decide_eq_true (by omega)
                  clear c51
                  obtain ⟨ji52, hji52⟩ : ∃ j_ : Int, (wrap64 ((t187.length : Int) - 1)) = j_ := ⟨_, rfl⟩
                  replace H : (if 0 ≤ (ji52) then (if (ji52) < (t187.length : Int) then (some (((rd_T31 t187 (ji52)).f1) == (a0.size : Int))) else (none)) else (none)) = some r := by first | (rw [hji52] at H; exact H) | (simp only [hji52] at H ⊢; exact H)
                  have hji52w : (IntKind.i64.wrap ((t187.length : Int) - 1)) = ji52 := (i64_w _).trans hji52
                  by_cases c53 : 0 ≤ (ji52)
                  · rw [if_pos c53] at H
                    have c53b0 : decide (0 ≤ (ji52)) = true := decide_eq_true c53
                    clear c53
                    by_cases c54 : (ji52) < (t187.length : Int)
                    · rw [if_pos c54] at H
                      have c54b0 : decide ((ji52) < (t187.length : Int)) = true := decide_eq_true c54
                      clear c54
                      obtain rfl := Option.some.inj H
                      obtain ⟨Ao55, co55, eo55⟩ := Kd.R_slice HO_7.out
                      subst eo55
                      have p192 : 0 ≤ ((ji52) : Int) := of_decide_eq_true (by first | (with_reducible assumption) | assumption)
                      have q192 : (ji52) < (t187.length : Int) := of_decide_eq_true (by first | (with_reducible assumption) | assumption)
                      obtain ⟨ad192, e192, hx192_0, hx192_1, hx192_2, hx192_3⟩ := at_T31 (Kd.R_reads' HO_7.out).2.2 (ji52) p192 q192
                      cases e192
                      replace p192 := eq_true p192
                      replace q192 := eq_true q192
                      go_wp2
                      repeat (go_quiet (fail); try go_wp2)
                      go_ret
                      exact ⟨by first | rfl | (simp [errW_none, errW_some] <;> rfl) | (simp only [← hji52]; first | rfl | (simp [errW_none, errW_some] <;> rfl)) | (simp [*, errW_none, errW_some] <;> rfl), by repeat (first | (with_reducible first | exact HB.out | apply below_alloc | apply pw_below_drewN | apply below_drew1) | exact HB.out)⟩
                    · rw [if_neg c54] at H
                      exact absurd H (by simp)
                  · rw [if_neg c53] at H
                    exact absurd H (by simp)
                · rw [if_neg c51] at H
                  have c51b0 : decide (0 < (t187.length : Int)) = false := decide_eq_false c51
                  have c51b1 : decide (0 < t187.length) = false := decide_eq_false (by omega)
                  clear c51
                  obtain rfl := Option.some.inj H
                  obtain ⟨Ao56, co56, eo56⟩ := Kd.R_slice HO_7.out
                  subst eo56
                  go_wp2
                  repeat (go_quiet (fail); try go_wp2)
                  go_ret
                  exact ⟨by first | rfl | (simp [errW_none, errW_some] <;> rfl) | (simp [*, errW_none, errW_some] <;> rfl), by repeat (first | (with_reducible first | exact HB.out | apply below_alloc | apply pw_below_drewN | apply below_drew1) | exact HB.out)⟩
              · rw [if_neg c50] at H
                have c50b0 : (t189 == (-1)) = false := beq_eq_false_iff_ne.mpr c50
                have c50b1 : (t189 != (-1)) = true := bne_iff_ne.mpr c50
                obtain rfl := Option.some.inj H
                obtain ⟨Ao57, co57, eo57⟩ := Kd.R_slice HO_7.out
                subst eo57
                go_wp2
                repeat (go_quiet (fail); try go_wp2)
                go_ret
                exact ⟨by first | rfl | (simp [errW_none, errW_some] <;> rfl) | (simp [*, errW_none, errW_some] <;> rfl), by repeat (first | (with_reducible first | exact HB.out | apply below_alloc | apply pw_below_drewN | apply below_drew1) | exact HB.out)⟩
            · replace c49 := Bool.eq_false_iff.mpr c49
              subst c49
              have H1 : (some false) = some r := by rw [if_neg (show ¬ (false = true) by decide)] at H; exact H
              clear H
              have H := H1
              clear H1
              obtain rfl := Option.some.inj H
              obtain ⟨Ao58, co58, eo58⟩ := Kd.R_slice HO_7.out
              subst eo58
              go_wp2
              repeat (go_quiet (fail); try go_wp2)
              go_ret
              exact ⟨by first | rfl | (simp [errW_none, errW_some] <;> rfl) | (simp [*, errW_none, errW_some] <;> rfl), by repeat (first | (with_reducible first | exact HB.out | apply below_alloc | apply pw_below_drewN | apply below_drew1) | exact HB.out)⟩
    · rw [if_neg c20] at H
      have c20b0 : (t188 == 0) = false := beq_eq_false_iff_ne.mpr c20
      have c20b1 : (t188 != 0) = true := bne_iff_ne.mpr c20
      by_cases c59 : t181 = true
      · subst c59
        have H1 : (if (t187.length : Int) = 0 then (if t189 ≥ 0 then (if t189 < (a0.size : Int) then (if t188 = 5 then (some true) else (some (t188 == 6))) else (some false)) else (some false)) else (some false)) = some r := by rw [if_pos rfl] at H; exact H
        clear H
        have H := H1
        clear H1
        by_cases c60 : (t187.length : Int) = 0
        · rw [if_pos c60] at H
          have c60b0 : ((t187.length : Int) == 0) = true := beq_iff_eq.mpr c60
          have c60b1 : ((t187.length : Int) != 0) = false := bne_eq_false_iff_eq.mpr c60
          clear c60
          by_cases c61 : t189 ≥ 0
          · rw [if_pos c61] at H
            have c61b0 : decide (0 ≤ t189) = true := decide_eq_true c61
            clear c61
            by_cases c62 : t189 < (a0.size : Int)
            · rw [if_pos c62] at H
              have c62b0 : decide (t189 < (a0.size : Int)) = true := decide_eq_true c62
              clear c62
              by_cases c63 : t188 = 5
              · rw [if_pos c63] at H
                have c63b0 : (t188 == 5) = true := beq_iff_eq.mpr c63
                have c63b1 : (t188 != 5) = false := bne_eq_false_iff_eq.mpr c63
                clear c63
                obtain rfl := Option.some.inj H
                go_enter Try.func5, Try.ntmps5
                go_wp2_with (first | (go_at_call 9; (with_reducible refine (fairleadlaw09_awake.calls k  true _ A2.out).mono ?_); rintro e w64 ⟨rfl, hb⟩; have n0_ := Aside0.mk (below_step (by repeat (first | (with_reducible first | exact HB.out | apply below_alloc | apply pw_below_drewN | apply below_drew1) | exact HB.out)) hb); clear HB; have HB := n0_; clear n0_; (try clear hb); (try clear hb2); (try clear hk); (try clear hi)) | (go_at_call 10; (with_reducible refine (lex_All.calls k a0 t187 t188 t189 _ A19.out).mono ?_); rintro e w65 ⟨v190, rfl, ho0, hb⟩; have n0_ := Aside0.mk (Kd.R_lower ho0 (below_size (by repeat (first | (with_reducible first | exact HB.out | apply below_alloc | apply pw_below_drewN | apply below_drew1) | exact HB.out)))); have n1_ := Aside0.mk (below_step (by repeat (first | (with_reducible first | exact HB.out | apply below_alloc | apply pw_below_drewN | apply below_drew1) | exact HB.out)) hb); clear HB; have HO191 := n0_; have HB := n1_; clear n0_ n1_; (try clear hb); (try clear hb2); (try clear hk); (try clear hi); (try clear ho0); obtain ⟨Ao66, co66, eo66⟩ := Kd.R_slice HO191.out; subst eo66))
                repeat (go_quiet (first | (go_at_call 9; (with_reducible refine (fairleadlaw09_awake.calls k  true _ A2.out).mono ?_); rintro e w64 ⟨rfl, hb⟩; have n0_ := Aside0.mk (below_step (by repeat (first | (with_reducible first | exact HB.out | apply below_alloc | apply pw_below_drewN | apply below_drew1) | exact HB.out)) hb); clear HB; have HB := n0_; clear n0_; (try clear hb); (try clear hb2); (try clear hk); (try clear hi)) | (go_at_call 10; (with_reducible refine (lex_All.calls k a0 t187 t188 t189 _ A19.out).mono ?_); rintro e w65 ⟨v190, rfl, ho0, hb⟩; have n0_ := Aside0.mk (Kd.R_lower ho0 (below_size (by repeat (first | (with_reducible first | exact HB.out | apply below_alloc | apply pw_below_drewN | apply below_drew1) | exact HB.out)))); have n1_ := Aside0.mk (below_step (by repeat (first | (with_reducible first | exact HB.out | apply below_alloc | apply pw_below_drewN | apply below_drew1) | exact HB.out)) hb); clear HB; have HO191 := n0_; have HB := n1_; clear n0_ n1_; (try clear hb); (try clear hb2); (try clear hk); (try clear hi); (try clear ho0); obtain ⟨Ao66, co66, eo66⟩ := Kd.R_slice HO191.out; subst eo66)); try go_wp2_with (first | (go_at_call 9; (with_reducible refine (fairleadlaw09_awake.calls k  true _ A2.out).mono ?_); rintro e w64 ⟨rfl, hb⟩; have n0_ := Aside0.mk (below_step (by repeat (first | (with_reducible first | exact HB.out | apply below_alloc | apply pw_below_drewN | apply below_drew1) | exact HB.out)) hb); clear HB; have HB := n0_; clear n0_; (try clear hb); (try clear hb2); (try clear hk); (try clear hi)) | (go_at_call 10; (with_reducible refine (lex_All.calls k a0 t187 t188 t189 _ A19.out).mono ?_); rintro e w65 ⟨v190, rfl, ho0, hb⟩; have n0_ := Aside0.mk (Kd.R_lower ho0 (below_size (by repeat (first | (with_reducible first | exact HB.out | apply below_alloc | apply pw_below_drewN | apply below_drew1) | exact HB.out)))); have n1_ := Aside0.mk (below_step (by repeat (first | (with_reducible first | exact HB.out | apply below_alloc | apply pw_below_drewN | apply below_drew1) | exact HB.out)) hb); clear HB; have HO191 := n0_; have HB := n1_; clear n0_ n1_; (try clear hb); (try clear hb2); (try clear hk); (try clear hi); (try clear ho0); obtain ⟨Ao66, co66, eo66⟩ := Kd.R_slice HO191.out; subst eo66)))
                go_ret
                exact ⟨by first | rfl | (simp [errW_none, errW_some] <;> rfl) | (simp [*, errW_none, errW_some] <;> rfl), by repeat (first | (with_reducible first | exact HB.out | apply below_alloc | apply pw_below_drewN | apply below_drew1) | exact HB.out)⟩
              · rw [if_neg c63] at H
                have c63b0 : (t188 == 5) = false := beq_eq_false_iff_ne.mpr c63
                have c63b1 : (t188 != 5) = true := bne_iff_ne.mpr c63
                obtain rfl := Option.some.inj H
                go_enter Try.func5, Try.ntmps5
                go_wp2_with (first | (go_at_call 9; (with_reducible refine (fairleadlaw09_awake.calls k  true _ A2.out).mono ?_); rintro e w67 ⟨rfl, hb⟩; have n0_ := Aside0.mk (below_step (by repeat (first | (with_reducible first | exact HB.out | apply below_alloc | apply pw_below_drewN | apply below_drew1) | exact HB.out)) hb); clear HB; have HB := n0_; clear n0_; (try clear hb); (try clear hb2); (try clear hk); (try clear hi)) | (go_at_call 10; (with_reducible refine (lex_All.calls k a0 t187 t188 t189 _ A19.out).mono ?_); rintro e w68 ⟨v190, rfl, ho0, hb⟩; have n0_ := Aside0.mk (Kd.R_lower ho0 (below_size (by repeat (first | (with_reducible first | exact HB.out | apply below_alloc | apply pw_below_drewN | apply below_drew1) | exact HB.out)))); have n1_ := Aside0.mk (below_step (by repeat (first | (with_reducible first | exact HB.out | apply below_alloc | apply pw_below_drewN | apply below_drew1) | exact HB.out)) hb); clear HB; have HO191 := n0_; have HB := n1_; clear n0_ n1_; (try clear hb); (try clear hb2); (try clear hk); (try clear hi); (try clear ho0); obtain ⟨Ao69, co69, eo69⟩ := Kd.R_slice HO191.out; subst eo69))
                repeat (go_quiet (first | (go_at_call 9; (with_reducible refine (fairleadlaw09_awake.calls k  true _ A2.out).mono ?_); rintro e w67 ⟨rfl, hb⟩; have n0_ := Aside0.mk (below_step (by repeat (first | (with_reducible first | exact HB.out | apply below_alloc | apply pw_below_drewN | apply below_drew1) | exact HB.out)) hb); clear HB; have HB := n0_; clear n0_; (try clear hb); (try clear hb2); (try clear hk); (try clear hi)) | (go_at_call 10; (with_reducible refine (lex_All.calls k a0 t187 t188 t189 _ A19.out).mono ?_); rintro e w68 ⟨v190, rfl, ho0, hb⟩; have n0_ := Aside0.mk (Kd.R_lower ho0 (below_size (by repeat (first | (with_reducible first | exact HB.out | apply below_alloc | apply pw_below_drewN | apply below_drew1) | exact HB.out)))); have n1_ := Aside0.mk (below_step (by repeat (first | (with_reducible first | exact HB.out | apply below_alloc | apply pw_below_drewN | apply below_drew1) | exact HB.out)) hb); clear HB; have HO191 := n0_; have HB := n1_; clear n0_ n1_; (try clear hb); (try clear hb2); (try clear hk); (try clear hi); (try clear ho0); obtain ⟨Ao69, co69, eo69⟩ := Kd.R_slice HO191.out; subst eo69)); try go_wp2_with (first | (go_at_call 9; (with_reducible refine (fairleadlaw09_awake.calls k  true _ A2.out).mono ?_); rintro e w67 ⟨rfl, hb⟩; have n0_ := Aside0.mk (below_step (by repeat (first | (with_reducible first | exact HB.out | apply below_alloc | apply pw_below_drewN | apply below_drew1) | exact HB.out)) hb); clear HB; have HB := n0_; clear n0_; (try clear hb); (try clear hb2); (try clear hk); (try clear hi)) | (go_at_call 10; (with_reducible refine (lex_All.calls k a0 t187 t188 t189 _ A19.out).mono ?_); rintro e w68 ⟨v190, rfl, ho0, hb⟩; have n0_ := Aside0.mk (Kd.R_lower ho0 (below_size (by repeat (first | (with_reducible first | exact HB.out | apply below_alloc | apply pw_below_drewN | apply below_drew1) | exact HB.out)))); have n1_ := Aside0.mk (below_step (by repeat (first | (with_reducible first | exact HB.out | apply below_alloc | apply pw_below_drewN | apply below_drew1) | exact HB.out)) hb); clear HB; have HO191 := n0_; have HB := n1_; clear n0_ n1_; (try clear hb); (try clear hb2); (try clear hk); (try clear hi); (try clear ho0); obtain ⟨Ao69, co69, eo69⟩ := Kd.R_slice HO191.out; subst eo69)))
                go_ret
                exact ⟨by first | rfl | (simp [errW_none, errW_some] <;> rfl) | (simp [*, errW_none, errW_some] <;> rfl), by repeat (first | (with_reducible first | exact HB.out | apply below_alloc | apply pw_below_drewN | apply below_drew1) | exact HB.out)⟩
            · rw [if_neg c62] at H
              have c62b0 : decide (t189 < (a0.size : Int)) = false := decide_eq_false c62
              clear c62
              obtain rfl := Option.some.inj H
              go_enter Try.func5, Try.ntmps5
              go_wp2_with (first | (go_at_call 9; (with_reducible refine (fairleadlaw09_awake.calls k  true _ A2.out).mono ?_); rintro e w70 ⟨rfl, hb⟩; have n0_ := Aside0.mk (below_step (by repeat (first | (with_reducible first | exact HB.out | apply below_alloc | apply pw_below_drewN | apply below_drew1) | exact HB.out)) hb); clear HB; have HB := n0_; clear n0_; (try clear hb); (try clear hb2); (try clear hk); (try clear hi)) | (go_at_call 10; (with_reducible refine (lex_All.calls k a0 t187 t188 t189 _ A19.out).mono ?_); rintro e w71 ⟨v190, rfl, ho0, hb⟩; have n0_ := Aside0.mk (Kd.R_lower ho0 (below_size (by repeat (first | (with_reducible first | exact HB.out | apply below_alloc | apply pw_below_drewN | apply below_drew1) | exact HB.out)))); have n1_ := Aside0.mk (below_step (by repeat (first | (with_reducible first | exact HB.out | apply below_alloc | apply pw_below_drewN | apply below_drew1) | exact HB.out)) hb); clear HB; have HO191 := n0_; have HB := n1_; clear n0_ n1_; (try clear hb); (try clear hb2); (try clear hk); (try clear hi); (try clear ho0); obtain ⟨Ao72, co72, eo72⟩ := Kd.R_slice HO191.out; subst eo72))
              repeat (go_quiet (first | (go_at_call 9; (with_reducible refine (fairleadlaw09_awake.calls k  true _ A2.out).mono ?_); rintro e w70 ⟨rfl, hb⟩; have n0_ := Aside0.mk (below_step (by repeat (first | (with_reducible first | exact HB.out | apply below_alloc | apply pw_below_drewN | apply below_drew1) | exact HB.out)) hb); clear HB; have HB := n0_; clear n0_; (try clear hb); (try clear hb2); (try clear hk); (try clear hi)) | (go_at_call 10; (with_reducible refine (lex_All.calls k a0 t187 t188 t189 _ A19.out).mono ?_); rintro e w71 ⟨v190, rfl, ho0, hb⟩; have n0_ := Aside0.mk (Kd.R_lower ho0 (below_size (by repeat (first | (with_reducible first | exact HB.out | apply below_alloc | apply pw_below_drewN | apply below_drew1) | exact HB.out)))); have n1_ := Aside0.mk (below_step (by repeat (first | (with_reducible first | exact HB.out | apply below_alloc | apply pw_below_drewN | apply below_drew1) | exact HB.out)) hb); clear HB; have HO191 := n0_; have HB := n1_; clear n0_ n1_; (try clear hb); (try clear hb2); (try clear hk); (try clear hi); (try clear ho0); obtain ⟨Ao72, co72, eo72⟩ := Kd.R_slice HO191.out; subst eo72)); try go_wp2_with (first | (go_at_call 9; (with_reducible refine (fairleadlaw09_awake.calls k  true _ A2.out).mono ?_); rintro e w70 ⟨rfl, hb⟩; have n0_ := Aside0.mk (below_step (by repeat (first | (with_reducible first | exact HB.out | apply below_alloc | apply pw_below_drewN | apply below_drew1) | exact HB.out)) hb); clear HB; have HB := n0_; clear n0_; (try clear hb); (try clear hb2); (try clear hk); (try clear hi)) | (go_at_call 10; (with_reducible refine (lex_All.calls k a0 t187 t188 t189 _ A19.out).mono ?_); rintro e w71 ⟨v190, rfl, ho0, hb⟩; have n0_ := Aside0.mk (Kd.R_lower ho0 (below_size (by repeat (first | (with_reducible first | exact HB.out | apply below_alloc | apply pw_below_drewN | apply below_drew1) | exact HB.out)))); have n1_ := Aside0.mk (below_step (by repeat (first | (with_reducible first | exact HB.out | apply below_alloc | apply pw_below_drewN | apply below_drew1) | exact HB.out)) hb); clear HB; have HO191 := n0_; have HB := n1_; clear n0_ n1_; (try clear hb); (try clear hb2); (try clear hk); (try clear hi); (try clear ho0); obtain ⟨Ao72, co72, eo72⟩ := Kd.R_slice HO191.out; subst eo72)))
              go_ret
              exact ⟨by first | rfl | (simp [errW_none, errW_some] <;> rfl) | (simp [*, errW_none, errW_some] <;> rfl), by repeat (first | (with_reducible first | exact HB.out | apply below_alloc | apply pw_below_drewN | apply below_drew1) | exact HB.out)⟩
          · rw [if_neg c61] at H
            have c61b0 : decide (0 ≤ t189) = false := decide_eq_false c61
            clear c61
            obtain rfl := Option.some.inj H
            go_enter Try.func5, Try.ntmps5
            go_wp2_with (first | (go_at_call 9; (with_reducible refine (fairleadlaw09_awake.calls k  true _ A2.out).mono ?_); rintro e w73 ⟨rfl, hb⟩; have n0_ := Aside0.mk (below_step (by repeat (first | (with_reducible first | exact HB.out | apply below_alloc | apply pw_below_drewN | apply below_drew1) | exact HB.out)) hb); clear HB; have HB := n0_; clear n0_; (try clear hb); (try clear hb2); (try clear hk); (try clear hi)) | (go_at_call 10; (with_reducible refine (lex_All.calls k a0 t187 t188 t189 _ A19.out).mono ?_); rintro e w74 ⟨v190, rfl, ho0, hb⟩; have n0_ := Aside0.mk (Kd.R_lower ho0 (below_size (by repeat (first | (with_reducible first | exact HB.out | apply below_alloc | apply pw_below_drewN | apply below_drew1) | exact HB.out)))); have n1_ := Aside0.mk (below_step (by repeat (first | (with_reducible first | exact HB.out | apply below_alloc | apply pw_below_drewN | apply below_drew1) | exact HB.out)) hb); clear HB; have HO191 := n0_; have HB := n1_; clear n0_ n1_; (try clear hb); (try clear hb2); (try clear hk); (try clear hi); (try clear ho0); obtain ⟨Ao75, co75, eo75⟩ := Kd.R_slice HO191.out; subst eo75))
            repeat (go_quiet (first | (go_at_call 9; (with_reducible refine (fairleadlaw09_awake.calls k  true _ A2.out).mono ?_); rintro e w73 ⟨rfl, hb⟩; have n0_ := Aside0.mk (below_step (by repeat (first | (with_reducible first | exact HB.out | apply below_alloc | apply pw_below_drewN | apply below_drew1) | exact HB.out)) hb); clear HB; have HB := n0_; clear n0_; (try clear hb); (try clear hb2); (try clear hk); (try clear hi)) | (go_at_call 10; (with_reducible refine (lex_All.calls k a0 t187 t188 t189 _ A19.out).mono ?_); rintro e w74 ⟨v190, rfl, ho0, hb⟩; have n0_ := Aside0.mk (Kd.R_lower ho0 (below_size (by repeat (first | (with_reducible first | exact HB.out | apply below_alloc | apply pw_below_drewN | apply below_drew1) | exact HB.out)))); have n1_ := Aside0.mk (below_step (by repeat (first | (with_reducible first | exact HB.out | apply below_alloc | apply pw_below_drewN | apply below_drew1) | exact HB.out)) hb); clear HB; have HO191 := n0_; have HB := n1_; clear n0_ n1_; (try clear hb); (try clear hb2); (try clear hk); (try clear hi); (try clear ho0); obtain ⟨Ao75, co75, eo75⟩ := Kd.R_slice HO191.out; subst eo75)); try go_wp2_with (first | (go_at_call 9; (with_reducible refine (fairleadlaw09_awake.calls k  true _ A2.out).mono ?_); rintro e w73 ⟨rfl, hb⟩; have n0_ := Aside0.mk (below_step (by repeat (first | (with_reducible first | exact HB.out | apply below_alloc | apply pw_below_drewN | apply below_drew1) | exact HB.out)) hb); clear HB; have HB := n0_; clear n0_; (try clear hb); (try clear hb2); (try clear hk); (try clear hi)) | (go_at_call 10; (with_reducible refine (lex_All.calls k a0 t187 t188 t189 _ A19.out).mono ?_); rintro e w74 ⟨v190, rfl, ho0, hb⟩; have n0_ := Aside0.mk (Kd.R_lower ho0 (below_size (by repeat (first | (with_reducible first | exact HB.out | apply below_alloc | apply pw_below_drewN | apply below_drew1) | exact HB.out)))); have n1_ := Aside0.mk (below_step (by repeat (first | (with_reducible first | exact HB.out | apply below_alloc | apply pw_below_drewN | apply below_drew1) | exact HB.out)) hb); clear HB; have HO191 := n0_; have HB := n1_; clear n0_ n1_; (try clear hb); (try clear hb2); (try clear hk); (try clear hi); (try clear ho0); obtain ⟨Ao75, co75, eo75⟩ := Kd.R_slice HO191.out; subst eo75)))
            go_ret
            exact ⟨by first | rfl | (simp [errW_none, errW_some] <;> rfl) | (simp [*, errW_none, errW_some] <;> rfl), by repeat (first | (with_reducible first | exact HB.out | apply below_alloc | apply pw_below_drewN | apply below_drew1) | exact HB.out)⟩
        · rw [if_neg c60] at H
          have c60b0 : ((t187.length : Int) == 0) = false := beq_eq_false_iff_ne.mpr c60
          have c60b1 : ((t187.length : Int) != 0) = true := bne_iff_ne.mpr c60
          have c60b2 : ¬ (t187 = []) := fun h_ => c60 (by rw [h_]; rfl)
          obtain rfl := Option.some.inj H
          go_enter Try.func5, Try.ntmps5
          go_wp2_with (first | (go_at_call 9; (with_reducible refine (fairleadlaw09_awake.calls k  true _ A2.out).mono ?_); rintro e w76 ⟨rfl, hb⟩; have n0_ := Aside0.mk (below_step (by repeat (first | (with_reducible first | exact HB.out | apply below_alloc | apply pw_below_drewN | apply below_drew1) | exact HB.out)) hb); clear HB; have HB := n0_; clear n0_; (try clear hb); (try clear hb2); (try clear hk); (try clear hi)) | (go_at_call 10; (with_reducible refine (lex_All.calls k a0 t187 t188 t189 _ A19.out).mono ?_); rintro e w77 ⟨v190, rfl, ho0, hb⟩; have n0_ := Aside0.mk (Kd.R_lower ho0 (below_size (by repeat (first | (with_reducible first | exact HB.out | apply below_alloc | apply pw_below_drewN | apply below_drew1) | exact HB.out)))); have n1_ := Aside0.mk (below_step (by repeat (first | (with_reducible first | exact HB.out | apply below_alloc | apply pw_below_drewN | apply below_drew1) | exact HB.out)) hb); clear HB; have HO191 := n0_; have HB := n1_; clear n0_ n1_; (try clear hb); (try clear hb2); (try clear hk); (try clear hi); (try clear ho0); obtain ⟨Ao78, co78, eo78⟩ := Kd.R_slice HO191.out; subst eo78))
          repeat (go_quiet (first | (go_at_call 9; (with_reducible refine (fairleadlaw09_awake.calls k  true _ A2.out).mono ?_); rintro e w76 ⟨rfl, hb⟩; have n0_ := Aside0.mk (below_step (by repeat (first | (with_reducible first | exact HB.out | apply below_alloc | apply pw_below_drewN | apply below_drew1) | exact HB.out)) hb); clear HB; have HB := n0_; clear n0_; (try clear hb); (try clear hb2); (try clear hk); (try clear hi)) | (go_at_call 10; (with_reducible refine (lex_All.calls k a0 t187 t188 t189 _ A19.out).mono ?_); rintro e w77 ⟨v190, rfl, ho0, hb⟩; have n0_ := Aside0.mk (Kd.R_lower ho0 (below_size (by repeat (first | (with_reducible first | exact HB.out | apply below_alloc | apply pw_below_drewN | apply below_drew1) | exact HB.out)))); have n1_ := Aside0.mk (below_step (by repeat (first | (with_reducible first | exact HB.out | apply below_alloc | apply pw_below_drewN | apply below_drew1) | exact HB.out)) hb); clear HB; have HO191 := n0_; have HB := n1_; clear n0_ n1_; (try clear hb); (try clear hb2); (try clear hk); (try clear hi); (try clear ho0); obtain ⟨Ao78, co78, eo78⟩ := Kd.R_slice HO191.out; subst eo78)); try go_wp2_with (first | (go_at_call 9; (with_reducible refine (fairleadlaw09_awake.calls k  true _ A2.out).mono ?_); rintro e w76 ⟨rfl, hb⟩; have n0_ := Aside0.mk (below_step (by repeat (first | (with_reducible first | exact HB.out | apply below_alloc | apply pw_below_drewN | apply below_drew1) | exact HB.out)) hb); clear HB; have HB := n0_; clear n0_; (try clear hb); (try clear hb2); (try clear hk); (try clear hi)) | (go_at_call 10; (with_reducible refine (lex_All.calls k a0 t187 t188 t189 _ A19.out).mono ?_); rintro e w77 ⟨v190, rfl, ho0, hb⟩; have n0_ := Aside0.mk (Kd.R_lower ho0 (below_size (by repeat (first | (with_reducible first | exact HB.out | apply below_alloc | apply pw_below_drewN | apply below_drew1) | exact HB.out)))); have n1_ := Aside0.mk (below_step (by repeat (first | (with_reducible first | exact HB.out | apply below_alloc | apply pw_below_drewN | apply below_drew1) | exact HB.out)) hb); clear HB; have HO191 := n0_; have HB := n1_; clear n0_ n1_; (try clear hb); (try clear hb2); (try clear hk); (try clear hi); (try clear ho0); obtain ⟨Ao78, co78, eo78⟩ := Kd.R_slice HO191.out; subst eo78)))
          go_ret
          exact ⟨by first | rfl | (simp [errW_none, errW_some] <;> rfl) | (simp [*, errW_none, errW_some] <;> rfl), by repeat (first | (with_reducible first | exact HB.out | apply below_alloc | apply pw_below_drewN | apply below_drew1) | exact HB.out)⟩
      · replace c59 := Bool.eq_false_iff.mpr c59
        subst c59
        have H1 : (some false) = some r := by rw [if_neg (show ¬ (false = true) by decide)] at H; exact H
        clear H
        have H := H1
        clear H1
        obtain rfl := Option.some.inj H
        go_enter Try.func5, Try.ntmps5
        go_wp2_with (first | (go_at_call 9; (with_reducible refine (fairleadlaw09_awake.calls k  false _ A2.out).mono ?_); rintro e w79 ⟨rfl, hb⟩; have n0_ := Aside0.mk (below_step (by repeat (first | (with_reducible first | exact HB.out | apply below_alloc | apply pw_below_drewN | apply below_drew1) | exact HB.out)) hb); clear HB; have HB := n0_; clear n0_; (try clear hb); (try clear hb2); (try clear hk); (try clear hi)) | (go_at_call 10; (with_reducible refine (lex_All.calls k a0 t187 t188 t189 _ A19.out).mono ?_); rintro e w80 ⟨v190, rfl, ho0, hb⟩; have n0_ := Aside0.mk (Kd.R_lower ho0 (below_size (by repeat (first | (with_reducible first | exact HB.out | apply below_alloc | apply pw_below_drewN | apply below_drew1) | exact HB.out)))); have n1_ := Aside0.mk (below_step (by repeat (first | (with_reducible first | exact HB.out | apply below_alloc | apply pw_below_drewN | apply below_drew1) | exact HB.out)) hb); clear HB; have HO191 := n0_; have HB := n1_; clear n0_ n1_; (try clear hb); (try clear hb2); (try clear hk); (try clear hi); (try clear ho0)))
        repeat (go_quiet (first | (go_at_call 9; (with_reducible refine (fairleadlaw09_awake.calls k  false _ A2.out).mono ?_); rintro e w79 ⟨rfl, hb⟩; have n0_ := Aside0.mk (below_step (by repeat (first | (with_reducible first | exact HB.out | apply below_alloc | apply pw_below_drewN | apply below_drew1) | exact HB.out)) hb); clear HB; have HB := n0_; clear n0_; (try clear hb); (try clear hb2); (try clear hk); (try clear hi)) | (go_at_call 10; (with_reducible refine (lex_All.calls k a0 t187 t188 t189 _ A19.out).mono ?_); rintro e w80 ⟨v190, rfl, ho0, hb⟩; have n0_ := Aside0.mk (Kd.R_lower ho0 (below_size (by repeat (first | (with_reducible first | exact HB.out | apply below_alloc | apply pw_below_drewN | apply below_drew1) | exact HB.out)))); have n1_ := Aside0.mk (below_step (by repeat (first | (with_reducible first | exact HB.out | apply below_alloc | apply pw_below_drewN | apply below_drew1) | exact HB.out)) hb); clear HB; have HO191 := n0_; have HB := n1_; clear n0_ n1_; (try clear hb); (try clear hb2); (try clear hk); (try clear hi); (try clear ho0))); try go_wp2_with (first | (go_at_call 9; (with_reducible refine (fairleadlaw09_awake.calls k  false _ A2.out).mono ?_); rintro e w79 ⟨rfl, hb⟩; have n0_ := Aside0.mk (below_step (by repeat (first | (with_reducible first | exact HB.out | apply below_alloc | apply pw_below_drewN | apply below_drew1) | exact HB.out)) hb); clear HB; have HB := n0_; clear n0_; (try clear hb); (try clear hb2); (try clear hk); (try clear hi)) | (go_at_call 10; (with_reducible refine (lex_All.calls k a0 t187 t188 t189 _ A19.out).mono ?_); rintro e w80 ⟨v190, rfl, ho0, hb⟩; have n0_ := Aside0.mk (Kd.R_lower ho0 (below_size (by repeat (first | (with_reducible first | exact HB.out | apply below_alloc | apply pw_below_drewN | apply below_drew1) | exact HB.out)))); have n1_ := Aside0.mk (below_step (by repeat (first | (with_reducible first | exact HB.out | apply below_alloc | apply pw_below_drewN | apply below_drew1) | exact HB.out)) hb); clear HB; have HO191 := n0_; have HB := n1_; clear n0_ n1_; (try clear hb); (try clear hb2); (try clear hk); (try clear hi); (try clear ho0))))
        go_ret
        exact ⟨by first | rfl | (simp [errW_none, errW_some] <;> rfl) | (simp [*, errW_none, errW_some] <;> rfl), by repeat (first | (with_reducible first | exact HB.out | apply below_alloc | apply pw_below_drewN | apply below_drew1) | exact HB.out)⟩

/-- What is to be shown of fairleadlaw09_LexLies, without Go and memory. -/
def fairleadlaw09_LexLies.Pure : Prop := ∀ (a0 : ByteArray), (a0.size ≤ 9223372036854775807) → ∃ k, fairleadlaw09_LexLies.f k a0 = some true

end Go.Proofs.Ytbiccohcikfgeaa.M
