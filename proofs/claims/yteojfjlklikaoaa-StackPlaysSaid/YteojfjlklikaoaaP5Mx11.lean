-- Laid by a program (wip/tools/myprint.py) out of the loaded program's own print: for each Go function a Lean function and the proof of its contract.
import Derived.Test.YteojfjlklikaoaaP5Mx0
import Derived.Test.YteojfjlklikaoaaP5Mx10
namespace Go.Proofs.Yteojfjlklikaoaa.M
open Go.RowKit Go.Proofs.YteojfjlklikaoaaW.PrintWords Go.Proofs.YteojfjlklikaoaaW.PrintLast Go.Proofs.YteojfjlklikaoaaW.PrintMore
attribute [local go_sem] max2_int min2_int max_two min_two max_three min_three max_four min_four   -- for this text's walks alone
set_option linter.unusedVariables false
set_option linter.unusedSimpArgs false
def fairleadref06_reckon.f (k : Nat) (a0 : Int) (a1 : Int) (a2 : Int) : Option (Int) := if a0 = 4 then (some ((a1 + a2) % 4294967296)) else (if a0 = 20 then (some ((a1 - a2) % 4294967296)) else (if a0 = 36 then (some ((a1 * a2) % 4294967296)) else (if a0 = 52 then (if a2 = 0 then (none) else (some ((Int.tdiv a1 a2) % 4294967296))) else (if a0 = 68 then (some (Go.bits .or .u32 a1 a2)) else (if a0 = 84 then (some (Go.bits .and .u32 a1 a2)) else (if a0 = 100 then ((fairleadref06_shift.f k a1 a2 true).bind fun t243 => (some t243)) else (if a0 = 116 then ((fairleadref06_shift.f k a1 a2 false).bind fun t244 => (some t244)) else (some (Go.bits .xor .u32 a1 a2)))))))))
set_option maxHeartbeats 8000000 in
set_option maxRecDepth 100000 in
theorem fairleadref06_reckon.calls (k : Nat) (a0 : Int) (a1 : Int) (a2 : Int) (r : Int) (w : World) (h : fairleadref06_reckon.f k a0 a1 a2 = some r) :
    Calls Try.prog 45 #[.int .u16 a0, .int .u32 a1, .int .u32 a2] w fun e w' => e = .returned (.int .u32 r) ∧ Drawn0 w w' := by
  have H : (if a0 = 4 then (some ((a1 + a2) % 4294967296)) else (if a0 = 20 then (some ((a1 - a2) % 4294967296)) else (if a0 = 36 then (some ((a1 * a2) % 4294967296)) else (if a0 = 52 then (if a2 = 0 then (none) else (some ((Int.tdiv a1 a2) % 4294967296))) else (if a0 = 68 then (some (Go.bits .or .u32 a1 a2)) else (if a0 = 84 then (some (Go.bits .and .u32 a1 a2)) else (if a0 = 100 then ((fairleadref06_shift.f k a1 a2 true).bind fun t243 => (some t243)) else (if a0 = 116 then ((fairleadref06_shift.f k a1 a2 false).bind fun t244 => (some t244)) else (some (Go.bits .xor .u32 a1 a2)))))))))) = some r := h
  clear h
  by_cases c4 : a0 = 4
  · rw [if_pos c4] at H
    have c4b0 : (a0 == 4) = true := beq_iff_eq.mpr c4
    have c4b1 : (a0 != 4) = false := bne_eq_false_iff_eq.mpr c4
    clear c4
    obtain rfl := Option.some.inj H
    go_enter Try.func45, Try.ntmps45
    go_wp2
    go_ret
    exact ⟨by first | rfl | (simp; done) | (simp [*]; done), by repeat (first | exact Drawn0.refl _ | apply Drawn0.step)⟩
  · rw [if_neg c4] at H
    have c4b0 : (a0 == 4) = false := beq_eq_false_iff_ne.mpr c4
    have c4b1 : (a0 != 4) = true := bne_iff_ne.mpr c4
    by_cases c5 : a0 = 20
    · rw [if_pos c5] at H
      have c5b0 : (a0 == 20) = true := beq_iff_eq.mpr c5
      have c5b1 : (a0 != 20) = false := bne_eq_false_iff_eq.mpr c5
      clear c5
      obtain rfl := Option.some.inj H
      go_enter Try.func45, Try.ntmps45
      go_wp2
      go_ret
      exact ⟨by first | rfl | (simp; done) | (simp [*]; done), by repeat (first | exact Drawn0.refl _ | apply Drawn0.step)⟩
    · rw [if_neg c5] at H
      have c5b0 : (a0 == 20) = false := beq_eq_false_iff_ne.mpr c5
      have c5b1 : (a0 != 20) = true := bne_iff_ne.mpr c5
      by_cases c6 : a0 = 36
      · rw [if_pos c6] at H
        have c6b0 : (a0 == 36) = true := beq_iff_eq.mpr c6
        have c6b1 : (a0 != 36) = false := bne_eq_false_iff_eq.mpr c6
        clear c6
        obtain rfl := Option.some.inj H
        go_enter Try.func45, Try.ntmps45
        go_wp2
        go_ret
        exact ⟨by first | rfl | (simp; done) | (simp [*]; done), by repeat (first | exact Drawn0.refl _ | apply Drawn0.step)⟩
      · rw [if_neg c6] at H
        have c6b0 : (a0 == 36) = false := beq_eq_false_iff_ne.mpr c6
        have c6b1 : (a0 != 36) = true := bne_iff_ne.mpr c6
        by_cases c7 : a0 = 52
        · rw [if_pos c7] at H
          have c7b0 : (a0 == 52) = true := beq_iff_eq.mpr c7
          have c7b1 : (a0 != 52) = false := bne_eq_false_iff_eq.mpr c7
          clear c7
          by_cases c8 : a2 = 0
          · rw [if_pos c8] at H
            exact absurd H (by simp)
          · rw [if_neg c8] at H
            have c8b0 : (a2 == 0) = false := beq_eq_false_iff_ne.mpr c8
            have c8b1 : (a2 != 0) = true := bne_iff_ne.mpr c8
            obtain rfl := Option.some.inj H
            go_enter Try.func45, Try.ntmps45
            go_wp2
            go_ret
            exact ⟨by first | rfl | (simp; done) | (simp [*]; done), by repeat (first | exact Drawn0.refl _ | apply Drawn0.step)⟩
        · rw [if_neg c7] at H
          have c7b0 : (a0 == 52) = false := beq_eq_false_iff_ne.mpr c7
          have c7b1 : (a0 != 52) = true := bne_iff_ne.mpr c7
          by_cases c9 : a0 = 68
          · rw [if_pos c9] at H
            have c9b0 : (a0 == 68) = true := beq_iff_eq.mpr c9
            have c9b1 : (a0 != 68) = false := bne_eq_false_iff_eq.mpr c9
            clear c9
            obtain rfl := Option.some.inj H
            go_enter Try.func45, Try.ntmps45
            go_wp2
            go_ret
            exact ⟨by first | rfl | (simp; done) | (simp [*]; done), by repeat (first | exact Drawn0.refl _ | apply Drawn0.step)⟩
          · rw [if_neg c9] at H
            have c9b0 : (a0 == 68) = false := beq_eq_false_iff_ne.mpr c9
            have c9b1 : (a0 != 68) = true := bne_iff_ne.mpr c9
            by_cases c10 : a0 = 84
            · rw [if_pos c10] at H
              have c10b0 : (a0 == 84) = true := beq_iff_eq.mpr c10
              have c10b1 : (a0 != 84) = false := bne_eq_false_iff_eq.mpr c10
              clear c10
              obtain rfl := Option.some.inj H
              go_enter Try.func45, Try.ntmps45
              go_wp2
              go_ret
              exact ⟨by first | rfl | (simp; done) | (simp [*]; done), by repeat (first | exact Drawn0.refl _ | apply Drawn0.step)⟩
            · rw [if_neg c10] at H
              have c10b0 : (a0 == 84) = false := beq_eq_false_iff_ne.mpr c10
              have c10b1 : (a0 != 84) = true := bne_iff_ne.mpr c10
              by_cases c11 : a0 = 100
              · rw [if_pos c11] at H
                have c11b0 : (a0 == 100) = true := beq_iff_eq.mpr c11
                have c11b1 : (a0 != 100) = false := bne_eq_false_iff_eq.mpr c11
                clear c11
                replace H := Option.bind_eq_some_iff.mp H
                obtain ⟨t243, A120, H⟩ := H
                replace H : (some t243) = some r := H
                have A12 := Aside0.mk A120
                clear A120
                obtain rfl := Option.some.inj H
                go_enter Try.func45, Try.ntmps45
                go_wp2_with (first | ((with_reducible refine gate_callee (f := 55) rfl ?_); refine goesL_ (some 42) rfl rfl Try.func55 (by kernel_rfl) rfl #[.int .u32 a1, .int .u32 a2, .bool true] rfl (by (try simp only [List.map_toArray, List.map_cons, List.map_nil]); first | done | rfl | (simp only [List.length_drop, List.length_take]; rfl)) ?_; (with_reducible refine (fairleadref06_shift.calls k a1 a2 true t243 _ A12.out).mono ?_); rintro e w' ⟨rfl, ⟨nd, rfl⟩⟩; refine ⟨_, rfl, ?_⟩))
                go_ret
                exact ⟨by first | rfl | (simp; done) | (simp [*]; done), by repeat (first | exact Drawn0.refl _ | apply Drawn0.step)⟩
              · rw [if_neg c11] at H
                have c11b0 : (a0 == 100) = false := beq_eq_false_iff_ne.mpr c11
                have c11b1 : (a0 != 100) = true := bne_iff_ne.mpr c11
                by_cases c13 : a0 = 116
                · rw [if_pos c13] at H
                  have c13b0 : (a0 == 116) = true := beq_iff_eq.mpr c13
                  have c13b1 : (a0 != 116) = false := bne_eq_false_iff_eq.mpr c13
                  clear c13
                  replace H := Option.bind_eq_some_iff.mp H
                  obtain ⟨t244, A140, H⟩ := H
                  replace H : (some t244) = some r := H
                  have A14 := Aside0.mk A140
                  clear A140
                  obtain rfl := Option.some.inj H
                  go_enter Try.func45, Try.ntmps45
                  go_wp2_with (first | ((with_reducible refine gate_callee (f := 55) rfl ?_); refine goesL_ (some 47) rfl rfl Try.func55 (by kernel_rfl) rfl #[.int .u32 a1, .int .u32 a2, .bool false] rfl (by (try simp only [List.map_toArray, List.map_cons, List.map_nil]); first | done | rfl | (simp only [List.length_drop, List.length_take]; rfl)) ?_; (with_reducible refine (fairleadref06_shift.calls k a1 a2 false t244 _ A14.out).mono ?_); rintro e w' ⟨rfl, ⟨nd, rfl⟩⟩; refine ⟨_, rfl, ?_⟩))
                  go_ret
                  exact ⟨by first | rfl | (simp; done) | (simp [*]; done), by repeat (first | exact Drawn0.refl _ | apply Drawn0.step)⟩
                · rw [if_neg c13] at H
                  have c13b0 : (a0 == 116) = false := beq_eq_false_iff_ne.mpr c13
                  have c13b1 : (a0 != 116) = true := bne_iff_ne.mpr c13
                  obtain rfl := Option.some.inj H
                  go_enter Try.func45, Try.ntmps45
                  go_wp2
                  go_ret
                  exact ⟨by first | rfl | (simp; done) | (simp [*]; done), by repeat (first | exact Drawn0.refl _ | apply Drawn0.step)⟩
end Go.Proofs.Yteojfjlklikaoaa.M
