-- Laid by a program (wip/tools/myprint.py) out of the loaded program's own print: for each Go function a Lean function and the proof of its contract.
import Derived.Test.YtdlmnmhlgacpnaaMx0
namespace Go.Proofs.Ytdlmnmhlgacpnaa.M
open Go.RowKit Go.Proofs.YtdlmnmhlgacpnaaW.PrintWords Go.Proofs.YtdlmnmhlgacpnaaW.PrintLast Go.Proofs.YtdlmnmhlgacpnaaW.PrintMore
attribute [local go_sem] max2_int min2_int max_two min_two max_three min_three max_four min_four   -- for this text's walks alone
set_option linter.unusedVariables false
set_option linter.unusedSimpArgs false

/-! ### fairleadref06_shift: function 39 -/
def fairleadref06_shift.l0 : Nat → Int → Int → Bool → Int → Option (Int)
 | 0, _, _, _, _ => none
 | k + 1, x0, x1, x2, x7 => if x7 < (Int.tmod x1 32) then (if x2 = true then (fairleadref06_shift.l0 k ((x0 * 2) % 4294967296) x1 x2 ((x7 + 1) % 4294967296)) else (fairleadref06_shift.l0 k ((Int.tdiv x0 2) % 4294967296) x1 x2 ((x7 + 1) % 4294967296))) else (some x0)
def fairleadref06_shift.f (k : Nat) (a0 : Int) (a1 : Int) (a2 : Bool) : Option (Int) := fairleadref06_shift.l0 k a0 a1 a2 0
theorem fairleadref06_shift.mono_l : ∀ k, (∀ y0 y1 y2 y3, LeO (fairleadref06_shift.l0 k y0 y1 y2 y3) (fairleadref06_shift.l0 (k + 1) y0 y1 y2 y3))
 | 0 => fun _ _ _ _ r h => by simp [fairleadref06_shift.l0] at h
 | k + 1 => by
  have ih0 := fairleadref06_shift.mono_l k
  ·intro y0 y1 y2 y3
   unfold fairleadref06_shift.l0
   repeat' first
   | (with_reducible exact ih0 _ _ _ _)
   | (with_reducible exact LeO.refl _)
   | (with_reducible exact LeO.none _)
   | (with_reducible refine LeO.ite ?_ ?_)
   | (with_reducible refine LeO.bind ?_ (fun _ => ?_))
   | exact ih0 _ _ _ _
   | exact LeO.none _
   | refine LeO.ite ?_ ?_
   | refine LeO.bind ?_ (fun _ => ?_)
theorem fairleadref06_shift.mono : ∀ a0 a1 a2 k, LeO (fairleadref06_shift.f k a0 a1 a2) (fairleadref06_shift.f (k + 1) a0 a1 a2) := by
 intro a0 a1 a2 k
 have ih0 := fairleadref06_shift.mono_l k
 unfold fairleadref06_shift.f
 repeat' first
   | (with_reducible exact ih0 _ _ _ _)
   | (with_reducible exact LeO.refl _)
   | (with_reducible exact LeO.none _)
   | (with_reducible refine LeO.ite ?_ ?_)
   | (with_reducible refine LeO.bind ?_ (fun _ => ?_))
   | exact ih0 _ _ _ _
   | exact LeO.none _
   | refine LeO.ite ?_ ?_
   | refine LeO.bind ?_ (fun _ => ?_)
set_option maxHeartbeats 8000000 in
set_option maxRecDepth 100000 in
theorem fairleadref06_shift.calls (k : Nat) (a0 : Int) (a1 : Int) (a2 : Bool) (r : Int) (w : World) (h : fairleadref06_shift.f k a0 a1 a2 = some r) :
  Calls Try.prog 39 #[.int .u32 a0, .int .u32 a1, .bool a2] w fun e w' => e = .returned (.int .u32 r) ∧ Drawn0 w w' := by
 have H : (fairleadref06_shift.l0 k a0 a1 a2 0) = some r := h
 clear h
 have H' := Aside0.mk H
 clear H
 go_enter Try.func39, Try.ntmps39
 go_wp2
 go_loopg [0, 7] k (fun kq v0 v7 w' => ∃ (x0_1 : Int) (x7_1 : Int), v0 = .int .u32 x0_1 ∧ v7 = .int .u32 x7_1 ∧ Aside0 (fairleadref06_shift.l0 kq x0_1 a1 a2 x7_1 = some r) ∧ Aside0 (kq ≤ k) ∧ Drawn0 w w')
 case atStart => exact ⟨(a0), (0), (by first | rfl | (simp; done) | (simp [*]; done)), (by first | rfl | (simp; done) | (simp [*]; done)), H', ⟨Nat.le_refl _⟩, by repeat (first | exact Drawn0.refl _ | apply Drawn0.step)⟩
 case round =>
  clear H'
  try clear p2
  try clear c3
  obtain ⟨x0_1, x7_1, rfl, rfl, HA, HK1, ⟨m1, rfl⟩⟩ := hrel
  cases gk with
  | zero => exact absurd HA.out (by simp [fairleadref06_shift.l0])
  | succ k1 =>
   have H := HA.out
   clear HA
   simp only [fairleadref06_shift.l0] at H
   by_cases c4 : x7_1 < (Int.tmod a1 32)
   ·rw [if_pos c4] at H
    have c4b0 : decide (x7_1 < (Int.tmod a1 32)) = true := decide_eq_true c4
    clear c4
    by_cases c5 : a2 = true
    ·subst c5
     have H1 : (fairleadref06_shift.l0 k1 ((x0_1 * 2) % 4294967296) a1 true ((x7_1 + 1) % 4294967296)) = some r := by rw [if_pos rfl] at H; exact H
     clear H
     have H := H1
     clear H1
     have H' := Aside0.mk H
     clear H
     go_wp2
     go_roundg k1
     case measure => have := HK1.out; omega
     case rel => exact ⟨((x0_1 * 2) % 4294967296), ((x7_1 + 1) % 4294967296), (by first | rfl | (simp; done) | (simp [*]; done)), (by first | rfl | (simp; done) | (simp [*]; done)), H', ⟨by have := HK1.out; omega⟩, by repeat (first | exact Drawn0.refl _ | apply Drawn0.step)⟩
    ·replace c5 := Bool.eq_false_iff.mpr c5
     subst c5
     have H1 : (fairleadref06_shift.l0 k1 ((Int.tdiv x0_1 2) % 4294967296) a1 false ((x7_1 + 1) % 4294967296)) = some r := by rw [if_neg (show ¬ (false = true) by decide)] at H; exact H
     clear H
     have H := H1
     clear H1
     have H' := Aside0.mk H
     clear H
     go_wp2
     go_roundg k1
     case measure => have := HK1.out; omega
     case rel => exact ⟨((Int.tdiv x0_1 2) % 4294967296), ((x7_1 + 1) % 4294967296), (by first | rfl | (simp; done) | (simp [*]; done)), (by first | rfl | (simp; done) | (simp [*]; done)), H', ⟨by have := HK1.out; omega⟩, by repeat (first | exact Drawn0.refl _ | apply Drawn0.step)⟩
   ·rw [if_neg c4] at H
    have c4b0 : decide (x7_1 < (Int.tmod a1 32)) = false := decide_eq_false c4
    clear c4
    obtain rfl := Option.some.inj H
    go_wp2
    go_ret
    exact ⟨by first | rfl | (simp; done) | (simp [*]; done), by repeat (first | exact Drawn0.refl _ | apply Drawn0.step)⟩

/-! ### fairleadref06_reckon: function 29 -/
def fairleadref06_reckon.f (k : Nat) (a0 : Int) (a1 : Int) (a2 : Int) : Option (Int) := if a0 = 4 then (some ((a1 + a2) % 4294967296)) else (if a0 = 20 then (some ((a1 - a2) % 4294967296)) else (if a0 = 36 then (some ((a1 * a2) % 4294967296)) else (if a0 = 52 then (if a2 = 0 then (none) else (some ((Int.tdiv a1 a2) % 4294967296))) else (if a0 = 68 then (some (Go.bits .or .u32 a1 a2)) else (if a0 = 84 then (some (Go.bits .and .u32 a1 a2)) else (if a0 = 100 then ((fairleadref06_shift.f k a1 a2 true).bind fun t241 => (some t241)) else (if a0 = 116 then ((fairleadref06_shift.f k a1 a2 false).bind fun t242 => (some t242)) else (some (Go.bits .xor .u32 a1 a2)))))))))
theorem fairleadref06_reckon.mono : ∀ a0 a1 a2 k, LeO (fairleadref06_reckon.f k a0 a1 a2) (fairleadref06_reckon.f (k + 1) a0 a1 a2) := by
 intro a0 a1 a2 k
 unfold fairleadref06_reckon.f
 repeat' first
   | (with_reducible exact fairleadref06_shift.mono _ _ _ _)
   | (with_reducible exact LeO.refl _)
   | (with_reducible exact LeO.none _)
   | (with_reducible refine LeO.ite ?_ ?_)
   | (with_reducible refine LeO.bind ?_ (fun _ => ?_))
   | exact fairleadref06_shift.mono _ _ _ _
   | exact LeO.none _
   | refine LeO.ite ?_ ?_
   | refine LeO.bind ?_ (fun _ => ?_)
set_option maxHeartbeats 8000000 in
set_option maxRecDepth 100000 in
theorem fairleadref06_reckon.calls (k : Nat) (a0 : Int) (a1 : Int) (a2 : Int) (r : Int) (w : World) (h : fairleadref06_reckon.f k a0 a1 a2 = some r) :
  Calls Try.prog 29 #[.int .u16 a0, .int .u32 a1, .int .u32 a2] w fun e w' => e = .returned (.int .u32 r) ∧ Drawn0 w w' := by
 have H : (if a0 = 4 then (some ((a1 + a2) % 4294967296)) else (if a0 = 20 then (some ((a1 - a2) % 4294967296)) else (if a0 = 36 then (some ((a1 * a2) % 4294967296)) else (if a0 = 52 then (if a2 = 0 then (none) else (some ((Int.tdiv a1 a2) % 4294967296))) else (if a0 = 68 then (some (Go.bits .or .u32 a1 a2)) else (if a0 = 84 then (some (Go.bits .and .u32 a1 a2)) else (if a0 = 100 then ((fairleadref06_shift.f k a1 a2 true).bind fun t241 => (some t241)) else (if a0 = 116 then ((fairleadref06_shift.f k a1 a2 false).bind fun t242 => (some t242)) else (some (Go.bits .xor .u32 a1 a2)))))))))) = some r := h
 clear h
 by_cases c4 : a0 = 4
 ·rw [if_pos c4] at H
  have c4b0 : (a0 == 4) = true := beq_iff_eq.mpr c4
  have c4b1 : (a0 != 4) = false := bne_eq_false_iff_eq.mpr c4
  clear c4
  obtain rfl := Option.some.inj H
  go_enter Try.func29, Try.ntmps29
  go_wp2
  go_ret
  exact ⟨by first | rfl | (simp; done) | (simp [*]; done), by repeat (first | exact Drawn0.refl _ | apply Drawn0.step)⟩
 ·rw [if_neg c4] at H
  have c4b0 : (a0 == 4) = false := beq_eq_false_iff_ne.mpr c4
  have c4b1 : (a0 != 4) = true := bne_iff_ne.mpr c4
  by_cases c5 : a0 = 20
  ·rw [if_pos c5] at H
   have c5b0 : (a0 == 20) = true := beq_iff_eq.mpr c5
   have c5b1 : (a0 != 20) = false := bne_eq_false_iff_eq.mpr c5
   clear c5
   obtain rfl := Option.some.inj H
   go_enter Try.func29, Try.ntmps29
   go_wp2
   go_ret
   exact ⟨by first | rfl | (simp; done) | (simp [*]; done), by repeat (first | exact Drawn0.refl _ | apply Drawn0.step)⟩
  ·rw [if_neg c5] at H
   have c5b0 : (a0 == 20) = false := beq_eq_false_iff_ne.mpr c5
   have c5b1 : (a0 != 20) = true := bne_iff_ne.mpr c5
   by_cases c6 : a0 = 36
   ·rw [if_pos c6] at H
    have c6b0 : (a0 == 36) = true := beq_iff_eq.mpr c6
    have c6b1 : (a0 != 36) = false := bne_eq_false_iff_eq.mpr c6
    clear c6
    obtain rfl := Option.some.inj H
    go_enter Try.func29, Try.ntmps29
    go_wp2
    go_ret
    exact ⟨by first | rfl | (simp; done) | (simp [*]; done), by repeat (first | exact Drawn0.refl _ | apply Drawn0.step)⟩
   ·rw [if_neg c6] at H
    have c6b0 : (a0 == 36) = false := beq_eq_false_iff_ne.mpr c6
    have c6b1 : (a0 != 36) = true := bne_iff_ne.mpr c6
    by_cases c7 : a0 = 52
    ·rw [if_pos c7] at H
     have c7b0 : (a0 == 52) = true := beq_iff_eq.mpr c7
     have c7b1 : (a0 != 52) = false := bne_eq_false_iff_eq.mpr c7
     clear c7
     by_cases c8 : a2 = 0
     ·rw [if_pos c8] at H
      exact absurd H (by simp)
     ·rw [if_neg c8] at H
      have c8b0 : (a2 == 0) = false := beq_eq_false_iff_ne.mpr c8
      have c8b1 : (a2 != 0) = true := bne_iff_ne.mpr c8
      obtain rfl := Option.some.inj H
      go_enter Try.func29, Try.ntmps29
      go_wp2
      go_ret
      exact ⟨by first | rfl | (simp; done) | (simp [*]; done), by repeat (first | exact Drawn0.refl _ | apply Drawn0.step)⟩
    ·rw [if_neg c7] at H
     have c7b0 : (a0 == 52) = false := beq_eq_false_iff_ne.mpr c7
     have c7b1 : (a0 != 52) = true := bne_iff_ne.mpr c7
     by_cases c9 : a0 = 68
     ·rw [if_pos c9] at H
      have c9b0 : (a0 == 68) = true := beq_iff_eq.mpr c9
      have c9b1 : (a0 != 68) = false := bne_eq_false_iff_eq.mpr c9
      clear c9
      obtain rfl := Option.some.inj H
      go_enter Try.func29, Try.ntmps29
      go_wp2
      go_ret
      exact ⟨by first | rfl | (simp; done) | (simp [*]; done), by repeat (first | exact Drawn0.refl _ | apply Drawn0.step)⟩
     ·rw [if_neg c9] at H
      have c9b0 : (a0 == 68) = false := beq_eq_false_iff_ne.mpr c9
      have c9b1 : (a0 != 68) = true := bne_iff_ne.mpr c9
      by_cases c10 : a0 = 84
      ·rw [if_pos c10] at H
       have c10b0 : (a0 == 84) = true := beq_iff_eq.mpr c10
       have c10b1 : (a0 != 84) = false := bne_eq_false_iff_eq.mpr c10
       clear c10
       obtain rfl := Option.some.inj H
       go_enter Try.func29, Try.ntmps29
       go_wp2
       go_ret
       exact ⟨by first | rfl | (simp; done) | (simp [*]; done), by repeat (first | exact Drawn0.refl _ | apply Drawn0.step)⟩
      ·rw [if_neg c10] at H
       have c10b0 : (a0 == 84) = false := beq_eq_false_iff_ne.mpr c10
       have c10b1 : (a0 != 84) = true := bne_iff_ne.mpr c10
       by_cases c11 : a0 = 100
       ·rw [if_pos c11] at H
        have c11b0 : (a0 == 100) = true := beq_iff_eq.mpr c11
        have c11b1 : (a0 != 100) = false := bne_eq_false_iff_eq.mpr c11
        clear c11
        replace H := Option.bind_eq_some_iff.mp H
        obtain ⟨t241, A120, H⟩ := H
        replace H : (some t241) = some r := H
        have A12 := Aside0.mk A120
        clear A120
        obtain rfl := Option.some.inj H
        go_enter Try.func29, Try.ntmps29
        go_wp2_with (first | ((with_reducible refine gate_callee (f := 39) rfl ?_); refine goesL_ (some 42) rfl rfl Try.func39 (by kernel_rfl) rfl #[.int .u32 a1, .int .u32 a2, .bool true] rfl (by (try simp only [List.map_toArray, List.map_cons, List.map_nil]); first | done | rfl | (simp only [List.length_drop, List.length_take]; rfl)) ?_; (with_reducible refine (fairleadref06_shift.calls k a1 a2 true t241 _ A12.out).mono ?_); rintro e w' ⟨rfl, ⟨nd, rfl⟩⟩; refine ⟨_, rfl, ?_⟩))
        go_ret
        exact ⟨by first | rfl | (simp; done) | (simp [*]; done), by repeat (first | exact Drawn0.refl _ | apply Drawn0.step)⟩
       ·rw [if_neg c11] at H
        have c11b0 : (a0 == 100) = false := beq_eq_false_iff_ne.mpr c11
        have c11b1 : (a0 != 100) = true := bne_iff_ne.mpr c11
        by_cases c13 : a0 = 116
        ·rw [if_pos c13] at H
         have c13b0 : (a0 == 116) = true := beq_iff_eq.mpr c13
         have c13b1 : (a0 != 116) = false := bne_eq_false_iff_eq.mpr c13
         clear c13
         replace H := Option.bind_eq_some_iff.mp H
         obtain ⟨t242, A140, H⟩ := H
         replace H : (some t242) = some r := H
         have A14 := Aside0.mk A140
         clear A140
         obtain rfl := Option.some.inj H
         go_enter Try.func29, Try.ntmps29
         go_wp2_with (first | ((with_reducible refine gate_callee (f := 39) rfl ?_); refine goesL_ (some 47) rfl rfl Try.func39 (by kernel_rfl) rfl #[.int .u32 a1, .int .u32 a2, .bool false] rfl (by (try simp only [List.map_toArray, List.map_cons, List.map_nil]); first | done | rfl | (simp only [List.length_drop, List.length_take]; rfl)) ?_; (with_reducible refine (fairleadref06_shift.calls k a1 a2 false t242 _ A14.out).mono ?_); rintro e w' ⟨rfl, ⟨nd, rfl⟩⟩; refine ⟨_, rfl, ?_⟩))
         go_ret
         exact ⟨by first | rfl | (simp; done) | (simp [*]; done), by repeat (first | exact Drawn0.refl _ | apply Drawn0.step)⟩
        ·rw [if_neg c13] at H
         have c13b0 : (a0 == 116) = false := beq_eq_false_iff_ne.mpr c13
         have c13b1 : (a0 != 116) = true := bne_iff_ne.mpr c13
         obtain rfl := Option.some.inj H
         go_enter Try.func29, Try.ntmps29
         go_wp2
         go_ret
         exact ⟨by first | rfl | (simp; done) | (simp [*]; done), by repeat (first | exact Drawn0.refl _ | apply Drawn0.step)⟩

end Go.Proofs.Ytdlmnmhlgacpnaa.M
