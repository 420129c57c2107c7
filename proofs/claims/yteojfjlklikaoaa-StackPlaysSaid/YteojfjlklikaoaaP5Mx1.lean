-- Laid by a program (wip/tools/myprint.py) out of the loaded program's own print: for each Go function a Lean function and the proof of its contract.
import Derived.Test.YteojfjlklikaoaaP5Mx0
namespace Go.Proofs.Yteojfjlklikaoaa.M
open Go.RowKit Go.Proofs.YteojfjlklikaoaaW.PrintWords Go.Proofs.YteojfjlklikaoaaW.PrintLast Go.Proofs.YteojfjlklikaoaaW.PrintMore
attribute [local go_sem] max2_int min2_int max_two min_two max_three min_three max_four min_four   -- for this text's walks alone
set_option linter.unusedVariables false
set_option linter.unusedSimpArgs false
def insn_Jumps.f (a0 : Int) : Option (Bool) := if a0 = 5 then (some true) else (if a0 = 21 then (some true) else (if a0 = 37 then (some true) else (if a0 = 53 then (some true) else (if a0 = 69 then (some true) else (if a0 = 29 then (some true) else (if a0 = 45 then (some true) else (if a0 = 61 then (some true) else (if a0 = 77 then (some true) else (some false)))))))))
set_option maxHeartbeats 8000000 in
set_option maxRecDepth 100000 in
theorem insn_Jumps.calls (a0 : Int) (r : Bool) (w : World) (h : insn_Jumps.f a0 = some r) :
    Calls Try.prog 38 #[.int .u16 a0] w fun e w' => e = .returned (.bool r) ∧ Drawn0 w w' := by
  have H : (if a0 = 5 then (some true) else (if a0 = 21 then (some true) else (if a0 = 37 then (some true) else (if a0 = 53 then (some true) else (if a0 = 69 then (some true) else (if a0 = 29 then (some true) else (if a0 = 45 then (some true) else (if a0 = 61 then (some true) else (if a0 = 77 then (some true) else (some false)))))))))) = some r := h
  clear h
  by_cases c2 : a0 = 5
  · rw [if_pos c2] at H
    have c2b0 : (a0 == 5) = true := beq_iff_eq.mpr c2
    have c2b1 : (a0 != 5) = false := bne_eq_false_iff_eq.mpr c2
    clear c2
    obtain rfl := Option.some.inj H
    go_enter Try.func38, Try.ntmps38
    go_wp2
    go_ret
    exact ⟨by first | rfl | (simp; done) | (simp [*]; done), by repeat (first | exact Drawn0.refl _ | apply Drawn0.step)⟩
  · rw [if_neg c2] at H
    have c2b0 : (a0 == 5) = false := beq_eq_false_iff_ne.mpr c2
    have c2b1 : (a0 != 5) = true := bne_iff_ne.mpr c2
    by_cases c3 : a0 = 21
    · rw [if_pos c3] at H
      have c3b0 : (a0 == 21) = true := beq_iff_eq.mpr c3
      have c3b1 : (a0 != 21) = false := bne_eq_false_iff_eq.mpr c3
      clear c3
      obtain rfl := Option.some.inj H
      go_enter Try.func38, Try.ntmps38
      go_wp2
      go_ret
      exact ⟨by first | rfl | (simp; done) | (simp [*]; done), by repeat (first | exact Drawn0.refl _ | apply Drawn0.step)⟩
    · rw [if_neg c3] at H
      have c3b0 : (a0 == 21) = false := beq_eq_false_iff_ne.mpr c3
      have c3b1 : (a0 != 21) = true := bne_iff_ne.mpr c3
      by_cases c4 : a0 = 37
      · rw [if_pos c4] at H
        have c4b0 : (a0 == 37) = true := beq_iff_eq.mpr c4
        have c4b1 : (a0 != 37) = false := bne_eq_false_iff_eq.mpr c4
        clear c4
        obtain rfl := Option.some.inj H
        go_enter Try.func38, Try.ntmps38
        go_wp2
        go_ret
        exact ⟨by first | rfl | (simp; done) | (simp [*]; done), by repeat (first | exact Drawn0.refl _ | apply Drawn0.step)⟩
      · rw [if_neg c4] at H
        have c4b0 : (a0 == 37) = false := beq_eq_false_iff_ne.mpr c4
        have c4b1 : (a0 != 37) = true := bne_iff_ne.mpr c4
        by_cases c5 : a0 = 53
        · rw [if_pos c5] at H
          have c5b0 : (a0 == 53) = true := beq_iff_eq.mpr c5
          have c5b1 : (a0 != 53) = false := bne_eq_false_iff_eq.mpr c5
          clear c5
          obtain rfl := Option.some.inj H
          go_enter Try.func38, Try.ntmps38
          go_wp2
          go_ret
          exact ⟨by first | rfl | (simp; done) | (simp [*]; done), by repeat (first | exact Drawn0.refl _ | apply Drawn0.step)⟩
        · rw [if_neg c5] at H
          have c5b0 : (a0 == 53) = false := beq_eq_false_iff_ne.mpr c5
          have c5b1 : (a0 != 53) = true := bne_iff_ne.mpr c5
          by_cases c6 : a0 = 69
          · rw [if_pos c6] at H
            have c6b0 : (a0 == 69) = true := beq_iff_eq.mpr c6
            have c6b1 : (a0 != 69) = false := bne_eq_false_iff_eq.mpr c6
            clear c6
            obtain rfl := Option.some.inj H
            go_enter Try.func38, Try.ntmps38
            go_wp2
            go_ret
            exact ⟨by first | rfl | (simp; done) | (simp [*]; done), by repeat (first | exact Drawn0.refl _ | apply Drawn0.step)⟩
          · rw [if_neg c6] at H
            have c6b0 : (a0 == 69) = false := beq_eq_false_iff_ne.mpr c6
            have c6b1 : (a0 != 69) = true := bne_iff_ne.mpr c6
            by_cases c7 : a0 = 29
            · rw [if_pos c7] at H
              have c7b0 : (a0 == 29) = true := beq_iff_eq.mpr c7
              have c7b1 : (a0 != 29) = false := bne_eq_false_iff_eq.mpr c7
              clear c7
              obtain rfl := Option.some.inj H
              go_enter Try.func38, Try.ntmps38
              go_wp2
              go_ret
              exact ⟨by first | rfl | (simp; done) | (simp [*]; done), by repeat (first | exact Drawn0.refl _ | apply Drawn0.step)⟩
            · rw [if_neg c7] at H
              have c7b0 : (a0 == 29) = false := beq_eq_false_iff_ne.mpr c7
              have c7b1 : (a0 != 29) = true := bne_iff_ne.mpr c7
              by_cases c8 : a0 = 45
              · rw [if_pos c8] at H
                have c8b0 : (a0 == 45) = true := beq_iff_eq.mpr c8
                have c8b1 : (a0 != 45) = false := bne_eq_false_iff_eq.mpr c8
                clear c8
                obtain rfl := Option.some.inj H
                go_enter Try.func38, Try.ntmps38
                go_wp2
                go_ret
                exact ⟨by first | rfl | (simp; done) | (simp [*]; done), by repeat (first | exact Drawn0.refl _ | apply Drawn0.step)⟩
              · rw [if_neg c8] at H
                have c8b0 : (a0 == 45) = false := beq_eq_false_iff_ne.mpr c8
                have c8b1 : (a0 != 45) = true := bne_iff_ne.mpr c8
                by_cases c9 : a0 = 61
                · rw [if_pos c9] at H
                  have c9b0 : (a0 == 61) = true := beq_iff_eq.mpr c9
                  have c9b1 : (a0 != 61) = false := bne_eq_false_iff_eq.mpr c9
                  clear c9
                  obtain rfl := Option.some.inj H
                  go_enter Try.func38, Try.ntmps38
                  go_wp2
                  go_ret
                  exact ⟨by first | rfl | (simp; done) | (simp [*]; done), by repeat (first | exact Drawn0.refl _ | apply Drawn0.step)⟩
                · rw [if_neg c9] at H
                  have c9b0 : (a0 == 61) = false := beq_eq_false_iff_ne.mpr c9
                  have c9b1 : (a0 != 61) = true := bne_iff_ne.mpr c9
                  by_cases c10 : a0 = 77
                  · rw [if_pos c10] at H
                    have c10b0 : (a0 == 77) = true := beq_iff_eq.mpr c10
                    have c10b1 : (a0 != 77) = false := bne_eq_false_iff_eq.mpr c10
                    clear c10
                    obtain rfl := Option.some.inj H
                    go_enter Try.func38, Try.ntmps38
                    go_wp2
                    go_ret
                    exact ⟨by first | rfl | (simp; done) | (simp [*]; done), by repeat (first | exact Drawn0.refl _ | apply Drawn0.step)⟩
                  · rw [if_neg c10] at H
                    have c10b0 : (a0 == 77) = false := beq_eq_false_iff_ne.mpr c10
                    have c10b1 : (a0 != 77) = true := bne_iff_ne.mpr c10
                    obtain rfl := Option.some.inj H
                    go_enter Try.func38, Try.ntmps38
                    go_wp2
                    go_ret
                    exact ⟨by first | rfl | (simp; done) | (simp [*]; done), by repeat (first | exact Drawn0.refl _ | apply Drawn0.step)⟩
def insn_Ends.f (a0 : Int) : Option (Bool) := if a0 = 6 then (some true) else (some (a0 == 22))
set_option maxHeartbeats 8000000 in
set_option maxRecDepth 100000 in
theorem insn_Ends.calls (a0 : Int) (r : Bool) (w : World) (h : insn_Ends.f a0 = some r) :
    Calls Try.prog 39 #[.int .u16 a0] w fun e w' => e = .returned (.bool r) ∧ Drawn0 w w' := by
  have H : (if a0 = 6 then (some true) else (some (a0 == 22))) = some r := h
  clear h
  by_cases c2 : a0 = 6
  · rw [if_pos c2] at H
    have c2b0 : (a0 == 6) = true := beq_iff_eq.mpr c2
    have c2b1 : (a0 != 6) = false := bne_eq_false_iff_eq.mpr c2
    clear c2
    obtain rfl := Option.some.inj H
    go_enter Try.func39, Try.ntmps39
    go_wp2
    go_ret
    exact ⟨by first | rfl | (simp; done) | (simp [*]; done), by repeat (first | exact Drawn0.refl _ | apply Drawn0.step)⟩
  · rw [if_neg c2] at H
    have c2b0 : (a0 == 6) = false := beq_eq_false_iff_ne.mpr c2
    have c2b1 : (a0 != 6) = true := bne_iff_ne.mpr c2
    obtain rfl := Option.some.inj H
    go_enter Try.func39, Try.ntmps39
    go_wp2
    go_ret
    exact ⟨by first | rfl | (simp; done) | (simp [*]; done), by repeat (first | exact Drawn0.refl _ | apply Drawn0.step)⟩
def insn_reckons.f (a0 : Int) : Option (Bool) := if (Go.bits .andNot .u16 a0 8) = 4 then (some true) else (if (Go.bits .andNot .u16 a0 8) = 20 then (some true) else (if (Go.bits .andNot .u16 a0 8) = 36 then (some true) else (if (Go.bits .andNot .u16 a0 8) = 52 then (some true) else (if (Go.bits .andNot .u16 a0 8) = 68 then (some true) else (if (Go.bits .andNot .u16 a0 8) = 84 then (some true) else (if (Go.bits .andNot .u16 a0 8) = 100 then (some true) else (if (Go.bits .andNot .u16 a0 8) = 116 then (some true) else (if (Go.bits .andNot .u16 a0 8) = 164 then (some true) else (some false)))))))))
set_option maxHeartbeats 8000000 in
set_option maxRecDepth 100000 in
theorem insn_reckons.calls (a0 : Int) (r : Bool) (w : World) (h : insn_reckons.f a0 = some r) :
    Calls Try.prog 49 #[.int .u16 a0] w fun e w' => e = .returned (.bool r) ∧ Drawn0 w w' := by
  have H : (if (Go.bits .andNot .u16 a0 8) = 4 then (some true) else (if (Go.bits .andNot .u16 a0 8) = 20 then (some true) else (if (Go.bits .andNot .u16 a0 8) = 36 then (some true) else (if (Go.bits .andNot .u16 a0 8) = 52 then (some true) else (if (Go.bits .andNot .u16 a0 8) = 68 then (some true) else (if (Go.bits .andNot .u16 a0 8) = 84 then (some true) else (if (Go.bits .andNot .u16 a0 8) = 100 then (some true) else (if (Go.bits .andNot .u16 a0 8) = 116 then (some true) else (if (Go.bits .andNot .u16 a0 8) = 164 then (some true) else (some false)))))))))) = some r := h
  clear h
  by_cases c2 : (Go.bits .andNot .u16 a0 8) = 4
  · rw [if_pos c2] at H
    have c2b0 : ((Go.bits .andNot .u16 a0 8) == 4) = true := beq_iff_eq.mpr c2
    have c2b1 : ((Go.bits .andNot .u16 a0 8) != 4) = false := bne_eq_false_iff_eq.mpr c2
    clear c2
    obtain rfl := Option.some.inj H
    go_enter Try.func49, Try.ntmps49
    go_wp2
    go_ret
    exact ⟨by first | rfl | (simp; done) | (simp [*]; done), by repeat (first | exact Drawn0.refl _ | apply Drawn0.step)⟩
  · rw [if_neg c2] at H
    have c2b0 : ((Go.bits .andNot .u16 a0 8) == 4) = false := beq_eq_false_iff_ne.mpr c2
    have c2b1 : ((Go.bits .andNot .u16 a0 8) != 4) = true := bne_iff_ne.mpr c2
    by_cases c3 : (Go.bits .andNot .u16 a0 8) = 20
    · rw [if_pos c3] at H
      have c3b0 : ((Go.bits .andNot .u16 a0 8) == 20) = true := beq_iff_eq.mpr c3
      have c3b1 : ((Go.bits .andNot .u16 a0 8) != 20) = false := bne_eq_false_iff_eq.mpr c3
      clear c3
      obtain rfl := Option.some.inj H
      go_enter Try.func49, Try.ntmps49
      go_wp2
      go_ret
      exact ⟨by first | rfl | (simp; done) | (simp [*]; done), by repeat (first | exact Drawn0.refl _ | apply Drawn0.step)⟩
    · rw [if_neg c3] at H
      have c3b0 : ((Go.bits .andNot .u16 a0 8) == 20) = false := beq_eq_false_iff_ne.mpr c3
      have c3b1 : ((Go.bits .andNot .u16 a0 8) != 20) = true := bne_iff_ne.mpr c3
      by_cases c4 : (Go.bits .andNot .u16 a0 8) = 36
      · rw [if_pos c4] at H
        have c4b0 : ((Go.bits .andNot .u16 a0 8) == 36) = true := beq_iff_eq.mpr c4
        have c4b1 : ((Go.bits .andNot .u16 a0 8) != 36) = false := bne_eq_false_iff_eq.mpr c4
        clear c4
        obtain rfl := Option.some.inj H
        go_enter Try.func49, Try.ntmps49
        go_wp2
        go_ret
        exact ⟨by first | rfl | (simp; done) | (simp [*]; done), by repeat (first | exact Drawn0.refl _ | apply Drawn0.step)⟩
      · rw [if_neg c4] at H
        have c4b0 : ((Go.bits .andNot .u16 a0 8) == 36) = false := beq_eq_false_iff_ne.mpr c4
        have c4b1 : ((Go.bits .andNot .u16 a0 8) != 36) = true := bne_iff_ne.mpr c4
        by_cases c5 : (Go.bits .andNot .u16 a0 8) = 52
        · rw [if_pos c5] at H
          have c5b0 : ((Go.bits .andNot .u16 a0 8) == 52) = true := beq_iff_eq.mpr c5
          have c5b1 : ((Go.bits .andNot .u16 a0 8) != 52) = false := bne_eq_false_iff_eq.mpr c5
          clear c5
          obtain rfl := Option.some.inj H
          go_enter Try.func49, Try.ntmps49
          go_wp2
          go_ret
          exact ⟨by first | rfl | (simp; done) | (simp [*]; done), by repeat (first | exact Drawn0.refl _ | apply Drawn0.step)⟩
        · rw [if_neg c5] at H
          have c5b0 : ((Go.bits .andNot .u16 a0 8) == 52) = false := beq_eq_false_iff_ne.mpr c5
          have c5b1 : ((Go.bits .andNot .u16 a0 8) != 52) = true := bne_iff_ne.mpr c5
          by_cases c6 : (Go.bits .andNot .u16 a0 8) = 68
          · rw [if_pos c6] at H
            have c6b0 : ((Go.bits .andNot .u16 a0 8) == 68) = true := beq_iff_eq.mpr c6
            have c6b1 : ((Go.bits .andNot .u16 a0 8) != 68) = false := bne_eq_false_iff_eq.mpr c6
            clear c6
            obtain rfl := Option.some.inj H
            go_enter Try.func49, Try.ntmps49
            go_wp2
            go_ret
            exact ⟨by first | rfl | (simp; done) | (simp [*]; done), by repeat (first | exact Drawn0.refl _ | apply Drawn0.step)⟩
          · rw [if_neg c6] at H
            have c6b0 : ((Go.bits .andNot .u16 a0 8) == 68) = false := beq_eq_false_iff_ne.mpr c6
            have c6b1 : ((Go.bits .andNot .u16 a0 8) != 68) = true := bne_iff_ne.mpr c6
            by_cases c7 : (Go.bits .andNot .u16 a0 8) = 84
            · rw [if_pos c7] at H
              have c7b0 : ((Go.bits .andNot .u16 a0 8) == 84) = true := beq_iff_eq.mpr c7
              have c7b1 : ((Go.bits .andNot .u16 a0 8) != 84) = false := bne_eq_false_iff_eq.mpr c7
              clear c7
              obtain rfl := Option.some.inj H
              go_enter Try.func49, Try.ntmps49
              go_wp2
              go_ret
              exact ⟨by first | rfl | (simp; done) | (simp [*]; done), by repeat (first | exact Drawn0.refl _ | apply Drawn0.step)⟩
            · rw [if_neg c7] at H
              have c7b0 : ((Go.bits .andNot .u16 a0 8) == 84) = false := beq_eq_false_iff_ne.mpr c7
              have c7b1 : ((Go.bits .andNot .u16 a0 8) != 84) = true := bne_iff_ne.mpr c7
              by_cases c8 : (Go.bits .andNot .u16 a0 8) = 100
              · rw [if_pos c8] at H
                have c8b0 : ((Go.bits .andNot .u16 a0 8) == 100) = true := beq_iff_eq.mpr c8
                have c8b1 : ((Go.bits .andNot .u16 a0 8) != 100) = false := bne_eq_false_iff_eq.mpr c8
                clear c8
                obtain rfl := Option.some.inj H
                go_enter Try.func49, Try.ntmps49
                go_wp2
                go_ret
                exact ⟨by first | rfl | (simp; done) | (simp [*]; done), by repeat (first | exact Drawn0.refl _ | apply Drawn0.step)⟩
              · rw [if_neg c8] at H
                have c8b0 : ((Go.bits .andNot .u16 a0 8) == 100) = false := beq_eq_false_iff_ne.mpr c8
                have c8b1 : ((Go.bits .andNot .u16 a0 8) != 100) = true := bne_iff_ne.mpr c8
                by_cases c9 : (Go.bits .andNot .u16 a0 8) = 116
                · rw [if_pos c9] at H
                  have c9b0 : ((Go.bits .andNot .u16 a0 8) == 116) = true := beq_iff_eq.mpr c9
                  have c9b1 : ((Go.bits .andNot .u16 a0 8) != 116) = false := bne_eq_false_iff_eq.mpr c9
                  clear c9
                  obtain rfl := Option.some.inj H
                  go_enter Try.func49, Try.ntmps49
                  go_wp2
                  go_ret
                  exact ⟨by first | rfl | (simp; done) | (simp [*]; done), by repeat (first | exact Drawn0.refl _ | apply Drawn0.step)⟩
                · rw [if_neg c9] at H
                  have c9b0 : ((Go.bits .andNot .u16 a0 8) == 116) = false := beq_eq_false_iff_ne.mpr c9
                  have c9b1 : ((Go.bits .andNot .u16 a0 8) != 116) = true := bne_iff_ne.mpr c9
                  by_cases c10 : (Go.bits .andNot .u16 a0 8) = 164
                  · rw [if_pos c10] at H
                    have c10b0 : ((Go.bits .andNot .u16 a0 8) == 164) = true := beq_iff_eq.mpr c10
                    have c10b1 : ((Go.bits .andNot .u16 a0 8) != 164) = false := bne_eq_false_iff_eq.mpr c10
                    clear c10
                    obtain rfl := Option.some.inj H
                    go_enter Try.func49, Try.ntmps49
                    go_wp2
                    go_ret
                    exact ⟨by first | rfl | (simp; done) | (simp [*]; done), by repeat (first | exact Drawn0.refl _ | apply Drawn0.step)⟩
                  · rw [if_neg c10] at H
                    have c10b0 : ((Go.bits .andNot .u16 a0 8) == 164) = false := beq_eq_false_iff_ne.mpr c10
                    have c10b1 : ((Go.bits .andNot .u16 a0 8) != 164) = true := bne_iff_ne.mpr c10
                    obtain rfl := Option.some.inj H
                    go_enter Try.func49, Try.ntmps49
                    go_wp2
                    go_ret
                    exact ⟨by first | rfl | (simp; done) | (simp [*]; done), by repeat (first | exact Drawn0.refl _ | apply Drawn0.step)⟩
def insn_Known.l0 : Nat → Int → Int → Option (Bool)
  | 0, _, _ => none
  | k + 1, x0, x8 => if x8 < 10 then (if 0 ≤ x8 then (if (rd ([32, 0, 1, 96, 97, 2, 3, 132, 7, 135] : List Int) x8) = x0 then (some true) else (insn_Known.l0 k x0 (wrap64 (x8 + 1)))) else (none)) else ((insn_reckons.f x0).bind fun t102 => (if t102 = true then (some true) else ((insn_Jumps.f x0).bind fun t103 => (if t103 = true then (some true) else ((insn_Ends.f x0).bind fun t104 => (some t104))))))
def insn_Known.f (k : Nat) (a0 : Int) : Option (Bool) := insn_Known.l0 k a0 0
set_option maxHeartbeats 8000000 in
set_option maxRecDepth 100000 in
theorem insn_Known.calls (k : Nat) (a0 : Int) (r : Bool) (w : World) (h : insn_Known.f k a0 = some r) :
    Calls Try.prog 37 #[.int .u16 a0] w fun e w' => e = .returned (.bool r) ∧ Below w.heap.size w w' := by
  have hu88 := Try.underlying88
  have HB := Aside0.mk (Below.refl w.heap.size w)
  have H : (insn_Known.l0 k a0 0) = some r := h
  clear h
  have H' := Aside0.mk H
  clear H
  go_enter Try.func37, Try.ntmps37
  go_wp2_with (first | ((with_reducible refine gate_dst (N := 3) rfl ?_); refine box_event ?hg (N := 3) ?hd (cs := #[.int .u16 0, .int .u16 0, .int .u16 0, .int .u16 0, .int .u16 0, .int .u16 0, .int .u16 0, .int .u16 0, .int .u16 0, .int .u16 0]) (t := 88) ?hr ?_; (case hd => rfl); (case hg => rfl); (case hr => first | (go_simp; done) | (go_simp; rfl)); intro gb101 hg w2 hbox hb; have n0_ := Aside0.mk (below_step (by repeat (first | (with_reducible first | exact HB.out | apply below_alloc | apply pw_below_drewN | apply below_drew1) | exact HB.out)) hb); have n1_ := Aside0.mk (hbox); have n2_ := Aside0.mk ((by rw [hg]; exact (below_size (by repeat (first | (with_reducible first | exact HB.out | apply below_alloc | apply pw_below_drewN | apply below_drew1) | exact HB.out))) : w.heap.size ≤ gb101)); have n3_ := Aside0.mk ((by rw [hg]; exact (below_size (by repeat (first | (with_reducible first | exact HB.out | apply below_alloc | apply pw_below_drewN | apply below_drew1) | exact HB.out))) : w.heap.size ≤ gb101)); clear HB; have HB := n0_; have BK101 := n1_; have GW101 := n2_; have GE101 := n3_; clear n0_ n1_ n2_ n3_; clear hb hbox hg; have hcz3_0 : w2.cell? ⟨gb101, 0, none⟩ = some (.int .u16 0) := (blk_cell BK101.out 0).trans rfl; have hcz3_1 : w2.cell? ⟨gb101, 1, none⟩ = some (.int .u16 0) := (blk_cell BK101.out 1).trans rfl; have hcz3_2 : w2.cell? ⟨gb101, 2, none⟩ = some (.int .u16 0) := (blk_cell BK101.out 2).trans rfl; have hcz3_3 : w2.cell? ⟨gb101, 3, none⟩ = some (.int .u16 0) := (blk_cell BK101.out 3).trans rfl; have hcz3_4 : w2.cell? ⟨gb101, 4, none⟩ = some (.int .u16 0) := (blk_cell BK101.out 4).trans rfl; have hcz3_5 : w2.cell? ⟨gb101, 5, none⟩ = some (.int .u16 0) := (blk_cell BK101.out 5).trans rfl; have hcz3_6 : w2.cell? ⟨gb101, 6, none⟩ = some (.int .u16 0) := (blk_cell BK101.out 6).trans rfl; have hcz3_7 : w2.cell? ⟨gb101, 7, none⟩ = some (.int .u16 0) := (blk_cell BK101.out 7).trans rfl; have hcz3_8 : w2.cell? ⟨gb101, 8, none⟩ = some (.int .u16 0) := (blk_cell BK101.out 8).trans rfl; have hcz3_9 : w2.cell? ⟨gb101, 9, none⟩ = some (.int .u16 0) := (blk_cell BK101.out 9).trans rfl; have hfz3_0 := blk_frozen BK101.out))
  go_loopg [8] k (fun kq v8 w' => ∃ (x8_1 : Int), v8 = .int .i64 x8_1 ∧ Aside0 (insn_Known.l0 kq a0 x8_1 = some r) ∧ Aside0 (kq ≤ k) ∧ Aside0 (w'.heap[gb101]? = some (.cells #[.int .u16 32, .int .u16 0, .int .u16 1, .int .u16 96, .int .u16 97, .int .u16 2, .int .u16 3, .int .u16 132, .int .u16 7, .int .u16 135] 88 (0, 0))) ∧ Aside0 (Below w.heap.size w w'))
  case atStart => exact ⟨(0), (by first | rfl | (simp; done) | (simp [*]; done)), H', ⟨Nat.le_refl _⟩, ⟨by (with_reducible repeat (first | refine blk_drewN ?_ _ | refine blk_drew ?_ | refine blk_alloc ?_ _)); refine blk_put (cs := #[.int .u16 32, .int .u16 0, .int .u16 1, .int .u16 96, .int .u16 97, .int .u16 2, .int .u16 3, .int .u16 132, .int .u16 7, .int .u16 0]) ?_ 9 _ rfl; (with_reducible repeat (first | refine blk_drewN ?_ _ | refine blk_drew ?_ | refine blk_alloc ?_ _)); refine blk_put (cs := #[.int .u16 32, .int .u16 0, .int .u16 1, .int .u16 96, .int .u16 97, .int .u16 2, .int .u16 3, .int .u16 132, .int .u16 0, .int .u16 0]) ?_ 8 _ rfl; (with_reducible repeat (first | refine blk_drewN ?_ _ | refine blk_drew ?_ | refine blk_alloc ?_ _)); refine blk_put (cs := #[.int .u16 32, .int .u16 0, .int .u16 1, .int .u16 96, .int .u16 97, .int .u16 2, .int .u16 3, .int .u16 0, .int .u16 0, .int .u16 0]) ?_ 7 _ rfl; (with_reducible repeat (first | refine blk_drewN ?_ _ | refine blk_drew ?_ | refine blk_alloc ?_ _)); refine blk_put (cs := #[.int .u16 32, .int .u16 0, .int .u16 1, .int .u16 96, .int .u16 97, .int .u16 2, .int .u16 0, .int .u16 0, .int .u16 0, .int .u16 0]) ?_ 6 _ rfl; (with_reducible repeat (first | refine blk_drewN ?_ _ | refine blk_drew ?_ | refine blk_alloc ?_ _)); refine blk_put (cs := #[.int .u16 32, .int .u16 0, .int .u16 1, .int .u16 96, .int .u16 97, .int .u16 0, .int .u16 0, .int .u16 0, .int .u16 0, .int .u16 0]) ?_ 5 _ rfl; (with_reducible repeat (first | refine blk_drewN ?_ _ | refine blk_drew ?_ | refine blk_alloc ?_ _)); refine blk_put (cs := #[.int .u16 32, .int .u16 0, .int .u16 1, .int .u16 96, .int .u16 0, .int .u16 0, .int .u16 0, .int .u16 0, .int .u16 0, .int .u16 0]) ?_ 4 _ rfl; (with_reducible repeat (first | refine blk_drewN ?_ _ | refine blk_drew ?_ | refine blk_alloc ?_ _)); refine blk_put (cs := #[.int .u16 32, .int .u16 0, .int .u16 1, .int .u16 0, .int .u16 0, .int .u16 0, .int .u16 0, .int .u16 0, .int .u16 0, .int .u16 0]) ?_ 3 _ rfl; (with_reducible repeat (first | refine blk_drewN ?_ _ | refine blk_drew ?_ | refine blk_alloc ?_ _)); refine blk_put (cs := #[.int .u16 32, .int .u16 0, .int .u16 0, .int .u16 0, .int .u16 0, .int .u16 0, .int .u16 0, .int .u16 0, .int .u16 0, .int .u16 0]) ?_ 2 _ rfl; (with_reducible repeat (first | refine blk_drewN ?_ _ | refine blk_drew ?_ | refine blk_alloc ?_ _)); refine blk_put (cs := #[.int .u16 32, .int .u16 0, .int .u16 0, .int .u16 0, .int .u16 0, .int .u16 0, .int .u16 0, .int .u16 0, .int .u16 0, .int .u16 0]) ?_ 1 _ rfl; (with_reducible repeat (first | refine blk_drewN ?_ _ | refine blk_drew ?_ | refine blk_alloc ?_ _)); refine blk_put (cs := #[.int .u16 0, .int .u16 0, .int .u16 0, .int .u16 0, .int .u16 0, .int .u16 0, .int .u16 0, .int .u16 0, .int .u16 0, .int .u16 0]) ?_ 0 _ rfl; (with_reducible repeat (first | refine blk_drewN ?_ _ | refine blk_drew ?_ | refine blk_alloc ?_ _)); exact BK101.out⟩, ⟨by repeat (first | (with_reducible first | exact HB.out | apply below_alloc | apply pw_below_drewN | apply below_drew1 | refine below_set ?_ GE101.out) | exact HB.out)⟩⟩
  case round =>
    clear H'
    try clear p2
    try clear c3
    try clear hcz3_0 hcz3_1 hcz3_2 hcz3_3 hcz3_4 hcz3_5 hcz3_6 hcz3_7 hcz3_8 hcz3_9
    try clear hfz3_0
    obtain ⟨x8_1, rfl, HA, HK1, BK101, HB⟩ := hrel
    cases gk with
    | zero => exact absurd HA.out (by simp [insn_Known.l0])
    | succ k1 =>
      have H := HA.out
      clear HA
      simp only [insn_Known.l0] at H
      by_cases c4 : x8_1 < 10
      · rw [if_pos c4] at H
        have c4b0 : decide (x8_1 < 10) = true := decide_eq_true c4
        clear c4
        by_cases c5 : 0 ≤ x8_1
        · rw [if_pos c5] at H
          have c5b0 : decide (0 ≤ x8_1) = true := decide_eq_true c5
          clear c5
          by_cases c7 : (rd ([32, 0, 1, 96, 97, 2, 3, 132, 7, 135] : List Int) x8_1) = a0
          · rw [if_pos c7] at H
            have c7b0 : ((rd ([32, 0, 1, 96, 97, 2, 3, 132, 7, 135] : List Int) x8_1) == a0) = true := beq_iff_eq.mpr c7
            have c7b1 : ((rd ([32, 0, 1, 96, 97, 2, 3, 132, 7, 135] : List Int) x8_1) != a0) = false := bne_eq_false_iff_eq.mpr c7
            clear c7
            obtain rfl := Option.some.inj H
            have p6 : 0 ≤ (x8_1 : Int) := of_decide_eq_true (by first | (with_reducible assumption) | assumption)
            have q6 : (x8_1 : Int) < 10 := of_decide_eq_true (by first | (with_reducible assumption) | assumption)
            have hx6 := fun (k_ : IntKind) (w_ : World) => Mine.arr_index (P := Try.prog) 88 51 10 .u16 Try.underlying88 (fun _ => by kernel_rfl) (Mine.part_one Try.underlying51) [32, 0, 1, 96, 97, 2, 3, 132, 7, 135] rfl (x8_1 : Int) p6 q6 k_ w_
            simp only [List.map_cons, List.map_nil] at hx6
            replace p6 := eq_true p6
            replace q6 := eq_true q6
            go_wp2
            go_ret
            exact ⟨by first | rfl | (simp [errW_none, errW_some] <;> rfl) | (simp [*, errW_none, errW_some] <;> rfl), by repeat (first | (with_reducible first | exact HB.out | apply below_alloc | apply pw_below_drewN | apply below_drew1 | refine below_set ?_ GE101.out) | exact HB.out)⟩
          · rw [if_neg c7] at H
            have c7b0 : ((rd ([32, 0, 1, 96, 97, 2, 3, 132, 7, 135] : List Int) x8_1) == a0) = false := beq_eq_false_iff_ne.mpr c7
            have c7b1 : ((rd ([32, 0, 1, 96, 97, 2, 3, 132, 7, 135] : List Int) x8_1) != a0) = true := bne_iff_ne.mpr c7
            have H' := Aside0.mk H
            clear H
            have p6 : 0 ≤ (x8_1 : Int) := of_decide_eq_true (by first | (with_reducible assumption) | assumption)
            have q6 : (x8_1 : Int) < 10 := of_decide_eq_true (by first | (with_reducible assumption) | assumption)
            have hx6 := fun (k_ : IntKind) (w_ : World) => Mine.arr_index (P := Try.prog) 88 51 10 .u16 Try.underlying88 (fun _ => by kernel_rfl) (Mine.part_one Try.underlying51) [32, 0, 1, 96, 97, 2, 3, 132, 7, 135] rfl (x8_1 : Int) p6 q6 k_ w_
            simp only [List.map_cons, List.map_nil] at hx6
            replace p6 := eq_true p6
            replace q6 := eq_true q6
            go_wp2
            go_roundg k1
            case measure => have := HK1.out; omega
            case rel => exact ⟨(wrap64 (x8_1 + 1)), (by first | rfl | (simp; done) | (simp [*]; done)), H', ⟨by have := HK1.out; omega⟩, ⟨by (with_reducible repeat (first | refine blk_drewN ?_ _ | refine blk_drew ?_ | refine blk_alloc ?_ _)); exact BK101.out⟩, ⟨by repeat (first | (with_reducible first | exact HB.out | apply below_alloc | apply pw_below_drewN | apply below_drew1 | refine below_set ?_ GE101.out) | exact HB.out)⟩⟩
        · rw [if_neg c5] at H
          exact absurd H (by simp)
      · rw [if_neg c4] at H
        have c4b0 : decide (x8_1 < 10) = false := decide_eq_false c4
        clear c4
        replace H := Option.bind_eq_some_iff.mp H
        obtain ⟨t102, A80, H⟩ := H
        replace H : (if t102 = true then (some true) else ((insn_Jumps.f a0).bind fun t103 => (if t103 = true then (some true) else ((insn_Ends.f a0).bind fun t104 => (some t104))))) = some r := H
        have A8 := Aside0.mk A80
        clear A80
        by_cases c9 : t102 = true
        · subst c9
          have H1 : (some true) = some r := by rw [if_pos rfl] at H; exact H
          clear H
          have H := H1
          clear H1
          obtain rfl := Option.some.inj H
          go_wp2_with (first | ((with_reducible refine gate_callee (f := 49) rfl ?_); refine goesL_ (some 16) rfl rfl Try.func49 (by kernel_rfl) rfl #[.int .u16 a0] rfl (by (try simp only [List.map_toArray, List.map_cons, List.map_nil]); first | done | rfl | (simp only [List.length_drop, List.length_take]; rfl)) ?_; (with_reducible refine (insn_reckons.calls a0 true _ A8.out).mono ?_); rintro e w' ⟨rfl, ⟨nd, rfl⟩⟩; refine ⟨_, rfl, ?_⟩))
          go_ret
          exact ⟨by first | rfl | (simp [errW_none, errW_some] <;> rfl) | (simp [*, errW_none, errW_some] <;> rfl), by repeat (first | (with_reducible first | exact HB.out | apply below_alloc | apply pw_below_drewN | apply below_drew1 | refine below_set ?_ GE101.out) | exact HB.out)⟩
        · replace c9 := Bool.eq_false_iff.mpr c9
          subst c9
          have H1 : ((insn_Jumps.f a0).bind fun t103 => (if t103 = true then (some true) else ((insn_Ends.f a0).bind fun t104 => (some t104)))) = some r := by rw [if_neg (show ¬ (false = true) by decide)] at H; exact H
          clear H
          have H := H1
          clear H1
          replace H := Option.bind_eq_some_iff.mp H
          obtain ⟨t103, A100, H⟩ := H
          replace H : (if t103 = true then (some true) else ((insn_Ends.f a0).bind fun t104 => (some t104))) = some r := H
          have A10 := Aside0.mk A100
          clear A100
          by_cases c11 : t103 = true
          · subst c11
            have H1 : (some true) = some r := by rw [if_pos rfl] at H; exact H
            clear H
            have H := H1
            clear H1
            obtain rfl := Option.some.inj H
            go_wp2_with (first | ((with_reducible refine gate_callee (f := 49) rfl ?_); refine goesL_ (some 16) rfl rfl Try.func49 (by kernel_rfl) rfl #[.int .u16 a0] rfl (by (try simp only [List.map_toArray, List.map_cons, List.map_nil]); first | done | rfl | (simp only [List.length_drop, List.length_take]; rfl)) ?_; (with_reducible refine (insn_reckons.calls a0 false _ A8.out).mono ?_); rintro e w' ⟨rfl, ⟨nd, rfl⟩⟩; refine ⟨_, rfl, ?_⟩) | (go_at_call 38; (with_reducible refine (insn_Jumps.calls a0 true _ A10.out).mono ?_); rintro e w' ⟨rfl, ⟨nd, rfl⟩⟩))
            go_ret
            exact ⟨by first | rfl | (simp [errW_none, errW_some] <;> rfl) | (simp [*, errW_none, errW_some] <;> rfl), by repeat (first | (with_reducible first | exact HB.out | apply below_alloc | apply pw_below_drewN | apply below_drew1 | refine below_set ?_ GE101.out) | exact HB.out)⟩
          · replace c11 := Bool.eq_false_iff.mpr c11
            subst c11
            have H1 : ((insn_Ends.f a0).bind fun t104 => (some t104)) = some r := by rw [if_neg (show ¬ (false = true) by decide)] at H; exact H
            clear H
            have H := H1
            clear H1
            replace H := Option.bind_eq_some_iff.mp H
            obtain ⟨t104, A120, H⟩ := H
            replace H : (some t104) = some r := H
            have A12 := Aside0.mk A120
            clear A120
            obtain rfl := Option.some.inj H
            go_wp2_with (first | ((with_reducible refine gate_callee (f := 49) rfl ?_); refine goesL_ (some 16) rfl rfl Try.func49 (by kernel_rfl) rfl #[.int .u16 a0] rfl (by (try simp only [List.map_toArray, List.map_cons, List.map_nil]); first | done | rfl | (simp only [List.length_drop, List.length_take]; rfl)) ?_; (with_reducible refine (insn_reckons.calls a0 false _ A8.out).mono ?_); rintro e w' ⟨rfl, ⟨nd, rfl⟩⟩; refine ⟨_, rfl, ?_⟩) | (go_at_call 38; (with_reducible refine (insn_Jumps.calls a0 false _ A10.out).mono ?_); rintro e w' ⟨rfl, ⟨nd, rfl⟩⟩) | (go_at_call 39; (with_reducible refine (insn_Ends.calls a0 t104 _ A12.out).mono ?_); rintro e w' ⟨rfl, ⟨nd, rfl⟩⟩))
            go_ret
            exact ⟨by first | rfl | (simp [errW_none, errW_some] <;> rfl) | (simp [*, errW_none, errW_some] <;> rfl), by repeat (first | (with_reducible first | exact HB.out | apply below_alloc | apply pw_below_drewN | apply below_drew1 | refine below_set ?_ GE101.out) | exact HB.out)⟩
end Go.Proofs.Yteojfjlklikaoaa.M
