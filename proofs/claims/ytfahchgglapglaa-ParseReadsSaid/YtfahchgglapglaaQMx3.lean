-- Laid by a program (wip/tools/myprint.py) out of the loaded program's own print: for each Go function a Lean function and the proof of its contract.
import Derived.Test.YtfahchgglapglaaQMx0
namespace Go.Proofs.Ytfahchgglapglaa.M
open Go.RowKit Go.Proofs.YtfahchgglapglaaW.PrintWords Go.Proofs.YtfahchgglapglaaW.PrintLast Go.Proofs.YtfahchgglapglaaW.PrintMore
attribute [local go_sem] max2_int min2_int max_two min_two max_three min_three max_four min_four   -- for this text's walks alone
set_option linter.unusedVariables false
set_option linter.unusedSimpArgs false
-- HAND rounds=True making=True
def lex_blank.l0 : Nat → ByteArray → Nat → Bool → Option Int
  | 0, _, _, _ => none
  | k + 1, s, pos, note => if pos < s.size then (if note = true then lex_blank.l0 k s (pos + (Utf8.decode s pos).2) (((Utf8.decode s pos).1 : Int) != 10) else (if ((Utf8.decode s pos).1 : Int) = 35 then lex_blank.l0 k s (pos + (Utf8.decode s pos).2) true else (if ((Utf8.decode s pos).1 : Int) = 32 then lex_blank.l0 k s (pos + (Utf8.decode s pos).2) false else (if ((Utf8.decode s pos).1 : Int) = 9 then lex_blank.l0 k s (pos + (Utf8.decode s pos).2) false else (if ((Utf8.decode s pos).1 : Int) = 10 then lex_blank.l0 k s (pos + (Utf8.decode s pos).2) false else (if ((Utf8.decode s pos).1 : Int) = 13 then lex_blank.l0 k s (pos + (Utf8.decode s pos).2) false else some (pos : Int))))))) else some (s.size : Int)
def lex_blank.f (k : Nat) (a0 : ByteArray) : Option (Int) := lex_blank.l0 k a0 0 false
set_option maxHeartbeats 8000000 in
set_option maxRecDepth 100000 in
theorem lex_blank.calls (k : Nat) (a0 : ByteArray) (r : Int) (w : World) (h : lex_blank.f k a0 = some r) :
    Calls Try.prog 28 #[.string a0] w fun e w' => e = .returned (.int .i64 r) ∧ Below w.heap.size w w' := by
  have H' := Aside0.mk (show lex_blank.l0 k a0 0 false = some r from h)
  clear h
  go_enter Try.func28, Try.ntmps28
  go_wp2
  (repeat (go_step3; (try go_wp2)))
  go_loopg [0, 3] k (fun kq v0 v3 w' => ∃ (pos m : Nat) (nt : Bool), v0 = .string a0 ∧ v3 = .bool nt ∧ w' = (w.iter a0 pos).drewN m ∧ Aside0 (lex_blank.l0 kq a0 pos nt = some r))
  case atStart => exact ⟨0, 0, false, rfl, rfl, rfl, H'⟩
  case round =>
    clear H'
    obtain ⟨pos, m, nt, rfl, rfl, rfl, HA⟩ := hrel
    cases gk with
    | zero => exact absurd HA.out (by simp [lex_blank.l0])
    | succ k1 =>
      have H := HA.out
      clear HA
      simp only [lex_blank.l0] at H
      by_cases hp : pos < a0.size
      · rw [if_pos hp] at H
        have hnx : ∀ ty, (Instr.next (.pointer (some ⟨w.heap.size, 0, none⟩)) true ty).run Try.prog ((w.iter a0 pos).drewN m) = _ := fun ty => Mine.iter_next w a0 pos m ty hp
        have hq1 : (pos ≤ a0.size) = True := eq_true (Nat.le_of_lt hp)
        have hq2 : ((pos : Int) ≤ (a0.size : Int)) = True := eq_true (by omega)
        clear hp
        by_cases ht : nt = true
        · subst ht
          rw [if_pos rfl] at H
          have HB := Aside0.mk H
          clear H
          go_wp2
          (repeat (go_step3; (try go_wp2)))
          go_roundg k1
          case measure => omega
          case rel => exact ⟨pos + (Utf8.decode a0 pos).2, _, _, rfl, rfl, by first | rfl | simp, HB⟩
        · obtain rfl : nt = false := by simpa using ht
          rw [if_neg (by decide)] at H
          by_cases c35 : ((Utf8.decode a0 pos).1 : Int) = 35
          · rw [if_pos c35] at H
            have c35b0 : (((Utf8.decode a0 pos).1 : Int) == 35) = true := beq_iff_eq.mpr c35
            have c35b1 : (((Utf8.decode a0 pos).1 : Int) != 35) = false := bne_eq_false_iff_eq.mpr c35
            clear c35
            have HB := Aside0.mk H
            clear H
            go_wp2
            (repeat (go_step3; (try go_wp2)))
            go_roundg k1
            case measure => omega
            case rel => exact ⟨pos + (Utf8.decode a0 pos).2, _, _, rfl, rfl, by first | rfl | simp, HB⟩
          · rw [if_neg c35] at H
            have c35b0 : (((Utf8.decode a0 pos).1 : Int) == 35) = false := beq_eq_false_iff_ne.mpr c35
            have c35b1 : (((Utf8.decode a0 pos).1 : Int) != 35) = true := bne_iff_ne.mpr c35
            clear c35
            by_cases c32 : ((Utf8.decode a0 pos).1 : Int) = 32
            · rw [if_pos c32] at H
              have c32b0 : (((Utf8.decode a0 pos).1 : Int) == 32) = true := beq_iff_eq.mpr c32
              have c32b1 : (((Utf8.decode a0 pos).1 : Int) != 32) = false := bne_eq_false_iff_eq.mpr c32
              clear c32
              have HB := Aside0.mk H
              clear H
              go_wp2
              (repeat (go_step3; (try go_wp2)))
              go_roundg k1
              case measure => omega
              case rel => exact ⟨pos + (Utf8.decode a0 pos).2, _, _, rfl, rfl, by first | rfl | simp, HB⟩
            · rw [if_neg c32] at H
              have c32b0 : (((Utf8.decode a0 pos).1 : Int) == 32) = false := beq_eq_false_iff_ne.mpr c32
              have c32b1 : (((Utf8.decode a0 pos).1 : Int) != 32) = true := bne_iff_ne.mpr c32
              clear c32
              by_cases c9 : ((Utf8.decode a0 pos).1 : Int) = 9
              · rw [if_pos c9] at H
                have c9b0 : (((Utf8.decode a0 pos).1 : Int) == 9) = true := beq_iff_eq.mpr c9
                have c9b1 : (((Utf8.decode a0 pos).1 : Int) != 9) = false := bne_eq_false_iff_eq.mpr c9
                clear c9
                have HB := Aside0.mk H
                clear H
                go_wp2
                (repeat (go_step3; (try go_wp2)))
                go_roundg k1
                case measure => omega
                case rel => exact ⟨pos + (Utf8.decode a0 pos).2, _, _, rfl, rfl, by first | rfl | simp, HB⟩
              · rw [if_neg c9] at H
                have c9b0 : (((Utf8.decode a0 pos).1 : Int) == 9) = false := beq_eq_false_iff_ne.mpr c9
                have c9b1 : (((Utf8.decode a0 pos).1 : Int) != 9) = true := bne_iff_ne.mpr c9
                clear c9
                by_cases c10 : ((Utf8.decode a0 pos).1 : Int) = 10
                · rw [if_pos c10] at H
                  have c10b0 : (((Utf8.decode a0 pos).1 : Int) == 10) = true := beq_iff_eq.mpr c10
                  have c10b1 : (((Utf8.decode a0 pos).1 : Int) != 10) = false := bne_eq_false_iff_eq.mpr c10
                  clear c10
                  have HB := Aside0.mk H
                  clear H
                  go_wp2
                  (repeat (go_step3; (try go_wp2)))
                  go_roundg k1
                  case measure => omega
                  case rel => exact ⟨pos + (Utf8.decode a0 pos).2, _, _, rfl, rfl, by first | rfl | simp, HB⟩
                · rw [if_neg c10] at H
                  have c10b0 : (((Utf8.decode a0 pos).1 : Int) == 10) = false := beq_eq_false_iff_ne.mpr c10
                  have c10b1 : (((Utf8.decode a0 pos).1 : Int) != 10) = true := bne_iff_ne.mpr c10
                  clear c10
                  by_cases c13 : ((Utf8.decode a0 pos).1 : Int) = 13
                  · rw [if_pos c13] at H
                    have c13b0 : (((Utf8.decode a0 pos).1 : Int) == 13) = true := beq_iff_eq.mpr c13
                    have c13b1 : (((Utf8.decode a0 pos).1 : Int) != 13) = false := bne_eq_false_iff_eq.mpr c13
                    clear c13
                    have HB := Aside0.mk H
                    clear H
                    go_wp2
                    (repeat (go_step3; (try go_wp2)))
                    go_roundg k1
                    case measure => omega
                    case rel => exact ⟨pos + (Utf8.decode a0 pos).2, _, _, rfl, rfl, by first | rfl | simp, HB⟩
                  · rw [if_neg c13] at H
                    have c13b0 : (((Utf8.decode a0 pos).1 : Int) == 13) = false := beq_eq_false_iff_ne.mpr c13
                    have c13b1 : (((Utf8.decode a0 pos).1 : Int) != 13) = true := bne_iff_ne.mpr c13
                    clear c13
                    obtain rfl := Option.some.inj H
                    clear H
                    go_wp2
                    (repeat (go_step3; (try go_wp2)))
                    (try rw [Exit.noGoto_ret])
                    go_ret
                    exact ⟨rfl, Mine.iter_below _ _ _ _⟩
      · rw [if_neg hp] at H
        have hnx : ∀ ty, (Instr.next (.pointer (some ⟨w.heap.size, 0, none⟩)) true ty).run Try.prog ((w.iter a0 pos).drewN m) = _ := fun ty => Mine.iter_end w a0 pos m ty hp
        clear hp
        obtain rfl := Option.some.inj H
        clear H
        go_wp2
        (repeat (go_step3; (try go_wp2)))
        (try rw [Exit.noGoto_ret])
        go_ret
        exact ⟨rfl, Mine.iter_below _ _ _ _⟩
def lex_small.f (a0 : Int) : Option (Bool) := if a0 ≥ 97 then (some (decide (a0 ≤ 122))) else (some false)
set_option maxHeartbeats 8000000 in
set_option maxRecDepth 100000 in
theorem lex_small.calls (a0 : Int) (r : Bool) (w : World) (h : lex_small.f a0 = some r) :
  Calls Try.prog 30 #[.int .i32 a0] w fun e w' => e = .returned (.bool r) ∧ Drawn0 w w' := by
 have H : (if a0 ≥ 97 then (some (decide (a0 ≤ 122))) else (some false)) = some r := h
 clear h
 by_cases c2 : a0 ≥ 97
 ·rw [if_pos c2] at H
  have c2b0 : decide (97 ≤ a0) = true := decide_eq_true c2
  clear c2
  obtain rfl := Option.some.inj H
  go_enter Try.func30, Try.ntmps30
  go_wp2
  go_ret
  exact ⟨by first | rfl | (simp; done) | (simp [*]; done), by repeat (first | exact Drawn0.refl _ | apply Drawn0.step)⟩
 ·rw [if_neg c2] at H
  have c2b0 : decide (97 ≤ a0) = false := decide_eq_false c2
  clear c2
  obtain rfl := Option.some.inj H
  go_enter Try.func30, Try.ntmps30
  go_wp2
  go_ret
  exact ⟨by first | rfl | (simp; done) | (simp [*]; done), by repeat (first | exact Drawn0.refl _ | apply Drawn0.step)⟩
def lex_digit.f (a0 : Int) : Option (Bool) := if a0 ≥ 48 then (some (decide (a0 ≤ 57))) else (some false)
set_option maxHeartbeats 8000000 in
set_option maxRecDepth 100000 in
theorem lex_digit.calls (a0 : Int) (r : Bool) (w : World) (h : lex_digit.f a0 = some r) :
  Calls Try.prog 40 #[.int .i32 a0] w fun e w' => e = .returned (.bool r) ∧ Drawn0 w w' := by
 have H : (if a0 ≥ 48 then (some (decide (a0 ≤ 57))) else (some false)) = some r := h
 clear h
 by_cases c2 : a0 ≥ 48
 ·rw [if_pos c2] at H
  have c2b0 : decide (48 ≤ a0) = true := decide_eq_true c2
  clear c2
  obtain rfl := Option.some.inj H
  go_enter Try.func40, Try.ntmps40
  go_wp2
  go_ret
  exact ⟨by first | rfl | (simp; done) | (simp [*]; done), by repeat (first | exact Drawn0.refl _ | apply Drawn0.step)⟩
 ·rw [if_neg c2] at H
  have c2b0 : decide (48 ≤ a0) = false := decide_eq_false c2
  clear c2
  obtain rfl := Option.some.inj H
  go_enter Try.func40, Try.ntmps40
  go_wp2
  go_ret
  exact ⟨by first | rfl | (simp; done) | (simp [*]; done), by repeat (first | exact Drawn0.refl _ | apply Drawn0.step)⟩
def lex_goes.f (a0 : Int) : Option (Bool) := (lex_small.f a0).bind fun t101 => (if t101 = true then (some true) else ((lex_digit.f a0).bind fun t102 => (if t102 = true then (some true) else (some (a0 == 95)))))
set_option maxHeartbeats 8000000 in
set_option maxRecDepth 100000 in
theorem lex_goes.calls (a0 : Int) (r : Bool) (w : World) (h : lex_goes.f a0 = some r) :
  Calls Try.prog 43 #[.int .i32 a0] w fun e w' => e = .returned (.bool r) ∧ Drawn0 w w' := by
 have H : ((lex_small.f a0).bind fun t101 => (if t101 = true then (some true) else ((lex_digit.f a0).bind fun t102 => (if t102 = true then (some true) else (some (a0 == 95)))))) = some r := h
 clear h
 replace H := Option.bind_eq_some_iff.mp H
 obtain ⟨t101, A20, H⟩ := H
 replace H : (if t101 = true then (some true) else ((lex_digit.f a0).bind fun t102 => (if t102 = true then (some true) else (some (a0 == 95))))) = some r := H
 have A2 := Aside0.mk A20
 clear A20
 by_cases c3 : t101 = true
 ·subst c3
  have H1 : (some true) = some r := by rw [if_pos rfl] at H; exact H
  clear H
  have H := H1
  clear H1
  obtain rfl := Option.some.inj H
  go_enter Try.func43, Try.ntmps43
  go_wp2_with (first | ((with_reducible refine gate_callee (f := 30) rfl ?_); refine goesL_ (some 4) rfl rfl Try.func30 (by kernel_rfl) rfl #[.int .i32 a0] rfl (by (try simp only [List.map_toArray, List.map_cons, List.map_nil]); first | done | rfl | (simp only [List.length_drop, List.length_take]; rfl)) ?_; (with_reducible refine (lex_small.calls a0 true _ A2.out).mono ?_); rintro e w' ⟨rfl, ⟨nd, rfl⟩⟩; refine ⟨_, rfl, ?_⟩))
  go_ret
  exact ⟨by first | rfl | (simp; done) | (simp [*]; done), by repeat (first | exact Drawn0.refl _ | apply Drawn0.step)⟩
 ·replace c3 := Bool.eq_false_iff.mpr c3
  subst c3
  have H1 : ((lex_digit.f a0).bind fun t102 => (if t102 = true then (some true) else (some (a0 == 95)))) = some r := by rw [if_neg (show ¬ (false = true) by decide)] at H; exact H
  clear H
  have H := H1
  clear H1
  replace H := Option.bind_eq_some_iff.mp H
  obtain ⟨t102, A40, H⟩ := H
  replace H : (if t102 = true then (some true) else (some (a0 == 95))) = some r := H
  have A4 := Aside0.mk A40
  clear A40
  by_cases c5 : t102 = true
  ·subst c5
   have H1 : (some true) = some r := by rw [if_pos rfl] at H; exact H
   clear H
   have H := H1
   clear H1
   obtain rfl := Option.some.inj H
   go_enter Try.func43, Try.ntmps43
   go_wp2_with (first | ((with_reducible refine gate_callee (f := 30) rfl ?_); refine goesL_ (some 4) rfl rfl Try.func30 (by kernel_rfl) rfl #[.int .i32 a0] rfl (by (try simp only [List.map_toArray, List.map_cons, List.map_nil]); first | done | rfl | (simp only [List.length_drop, List.length_take]; rfl)) ?_; (with_reducible refine (lex_small.calls a0 false _ A2.out).mono ?_); rintro e w' ⟨rfl, ⟨nd, rfl⟩⟩; refine ⟨_, rfl, ?_⟩) | (go_at_call 40; (with_reducible refine (lex_digit.calls a0 true _ A4.out).mono ?_); rintro e w' ⟨rfl, ⟨nd, rfl⟩⟩))
   go_ret
   exact ⟨by first | rfl | (simp; done) | (simp [*]; done), by repeat (first | exact Drawn0.refl _ | apply Drawn0.step)⟩
  ·replace c5 := Bool.eq_false_iff.mpr c5
   subst c5
   have H1 : (some (a0 == 95)) = some r := by rw [if_neg (show ¬ (false = true) by decide)] at H; exact H
   clear H
   have H := H1
   clear H1
   obtain rfl := Option.some.inj H
   go_enter Try.func43, Try.ntmps43
   go_wp2_with (first | ((with_reducible refine gate_callee (f := 30) rfl ?_); refine goesL_ (some 4) rfl rfl Try.func30 (by kernel_rfl) rfl #[.int .i32 a0] rfl (by (try simp only [List.map_toArray, List.map_cons, List.map_nil]); first | done | rfl | (simp only [List.length_drop, List.length_take]; rfl)) ?_; (with_reducible refine (lex_small.calls a0 false _ A2.out).mono ?_); rintro e w' ⟨rfl, ⟨nd, rfl⟩⟩; refine ⟨_, rfl, ?_⟩) | (go_at_call 40; (with_reducible refine (lex_digit.calls a0 false _ A4.out).mono ?_); rintro e w' ⟨rfl, ⟨nd, rfl⟩⟩))
   go_ret
   exact ⟨by first | rfl | (simp; done) | (simp [*]; done), by repeat (first | exact Drawn0.refl _ | apply Drawn0.step)⟩
-- HAND rounds=True making=True
def lex_length.l0 : Nat → ByteArray → Nat → Option Int
  | 0, _, _ => none
  | k + 1, s, pos => if pos < s.size then ((lex_goes.f ((Utf8.decode s pos).1 : Int)).bind fun t => if t = true then lex_length.l0 k s (pos + (Utf8.decode s pos).2) else some (pos : Int)) else some (s.size : Int)
def lex_length.f (k : Nat) (a0 : ByteArray) : Option (Int) := lex_length.l0 k a0 0
set_option maxHeartbeats 8000000 in
set_option maxRecDepth 100000 in
theorem lex_length.calls (k : Nat) (a0 : ByteArray) (r : Int) (w : World) (h : lex_length.f k a0 = some r) :
    Calls Try.prog 31 #[.string a0] w fun e w' => e = .returned (.int .i64 r) ∧ Below w.heap.size w w' := by
  have H' := Aside0.mk (show lex_length.l0 k a0 0 = some r from h)
  clear h
  go_enter Try.func31, Try.ntmps31
  go_wp2
  go_loopg [] k (fun kq w' => ∃ (pos n : Nat), w' = (w.iter a0 pos).drewN n ∧ Aside0 (lex_length.l0 kq a0 pos = some r))
  case atStart => exact ⟨0, 0, rfl, H'⟩
  case round =>
    clear H'
    obtain ⟨pos, n, rfl, HA⟩ := hrel
    cases gk with
    | zero => exact absurd HA.out (by simp [lex_length.l0])
    | succ k1 =>
      have H := HA.out
      clear HA
      simp only [lex_length.l0] at H
      by_cases hp : pos < a0.size
      · rw [if_pos hp] at H
        have hnx : ∀ ty, (Instr.next (.pointer (some ⟨w.heap.size, 0, none⟩)) true ty).run Try.prog ((w.iter a0 pos).drewN n) = _ := fun ty => Mine.iter_next w a0 pos n ty hp
        clear hp
        obtain ⟨t, A0, H⟩ := Option.bind_eq_some_iff.mp H
        have A1 := Aside0.mk A0
        clear A0
        by_cases ht : t = true
        · subst ht
          rw [if_pos rfl] at H
          have HB := Aside0.mk H
          clear H
          go_wp2_with (first | (go_at_call 43; (with_reducible refine (lex_goes.calls _ true _ A1.out).mono ?_); rintro e w' ⟨rfl, ⟨nd, rfl⟩⟩))
          go_roundg k1
          case measure => omega
          case rel => exact ⟨pos + (Utf8.decode a0 pos).2, _, by first | rfl | simp, HB⟩
        · obtain rfl : t = false := by simpa using ht
          rw [if_neg (by decide)] at H
          obtain rfl := Option.some.inj H
          clear H
          go_wp2_with (first | (go_at_call 43; (with_reducible refine (lex_goes.calls _ false _ A1.out).mono ?_); rintro e w' ⟨rfl, ⟨nd, rfl⟩⟩))
          go_ret
          exact ⟨rfl, by first | exact Mine.iter_below _ _ _ _ | (rw [World.drewN_drewN]; exact Mine.iter_below _ _ _ _)⟩
      · rw [if_neg hp] at H
        have hnx : ∀ ty, (Instr.next (.pointer (some ⟨w.heap.size, 0, none⟩)) true ty).run Try.prog ((w.iter a0 pos).drewN n) = _ := fun ty => Mine.iter_end w a0 pos n ty hp
        clear hp
        obtain rfl := Option.some.inj H
        clear H
        go_wp2
        go_ret
        exact ⟨rfl, Mine.iter_below _ _ _ _⟩
def lex_worth.f (a0 : Int) : Option (Int) := (lex_digit.f a0).bind fun t103 => (if t103 = true then (some (IntKind.u64.wrap (wrap32 (a0 - 48)))) else (if a0 ≥ 97 then (if a0 ≤ 102 then (some (IntKind.u64.wrap ((IntKind.u64.wrap (wrap32 (a0 - 97))) + 10))) else (some 99)) else (some 99)))
set_option maxHeartbeats 8000000 in
set_option maxRecDepth 100000 in
theorem lex_worth.calls (a0 : Int) (r : Int) (w : World) (h : lex_worth.f a0 = some r) :
  Calls Try.prog 50 #[.int .i32 a0] w fun e w' => e = .returned (.int .u64 r) ∧ Drawn0 w w' := by
 have H : ((lex_digit.f a0).bind fun t103 => (if t103 = true then (some (IntKind.u64.wrap (wrap32 (a0 - 48)))) else (if a0 ≥ 97 then (if a0 ≤ 102 then (some (IntKind.u64.wrap ((IntKind.u64.wrap (wrap32 (a0 - 97))) + 10))) else (some 99)) else (some 99)))) = some r := h
 clear h
 replace H := Option.bind_eq_some_iff.mp H
 obtain ⟨t103, A20, H⟩ := H
 replace H : (if t103 = true then (some (IntKind.u64.wrap (wrap32 (a0 - 48)))) else (if a0 ≥ 97 then (if a0 ≤ 102 then (some (IntKind.u64.wrap ((IntKind.u64.wrap (wrap32 (a0 - 97))) + 10))) else (some 99)) else (some 99))) = some r := H
 have A2 := Aside0.mk A20
 clear A20
 by_cases c3 : t103 = true
 ·subst c3
  have H1 : (some (IntKind.u64.wrap (wrap32 (a0 - 48)))) = some r := by rw [if_pos rfl] at H; exact H
  clear H
  have H := H1
  clear H1
  obtain rfl := Option.some.inj H
  go_enter Try.func50, Try.ntmps50
  go_wp2_with (first | ((with_reducible refine gate_callee (f := 40) rfl ?_); refine goesL_ (some 5) rfl rfl Try.func40 (by kernel_rfl) rfl #[.int .i32 a0] rfl (by (try simp only [List.map_toArray, List.map_cons, List.map_nil]); first | done | rfl | (simp only [List.length_drop, List.length_take]; rfl)) ?_; (with_reducible refine (lex_digit.calls a0 true _ A2.out).mono ?_); rintro e w' ⟨rfl, ⟨nd, rfl⟩⟩; refine ⟨_, rfl, ?_⟩))
  go_ret
  exact ⟨by first | rfl | (simp; done) | (simp [*]; done), by repeat (first | exact Drawn0.refl _ | apply Drawn0.step)⟩
 ·replace c3 := Bool.eq_false_iff.mpr c3
  subst c3
  have H1 : (if a0 ≥ 97 then (if a0 ≤ 102 then (some (IntKind.u64.wrap ((IntKind.u64.wrap (wrap32 (a0 - 97))) + 10))) else (some 99)) else (some 99)) = some r := by rw [if_neg (show ¬ (false = true) by decide)] at H; exact H
  clear H
  have H := H1
  clear H1
  by_cases c4 : a0 ≥ 97
  ·rw [if_pos c4] at H
   have c4b0 : decide (97 ≤ a0) = true := decide_eq_true c4
   clear c4
   by_cases c5 : a0 ≤ 102
   ·rw [if_pos c5] at H
    have c5b0 : decide (a0 ≤ 102) = true := decide_eq_true c5
    clear c5
    obtain rfl := Option.some.inj H
    go_enter Try.func50, Try.ntmps50
    go_wp2_with (first | ((with_reducible refine gate_callee (f := 40) rfl ?_); refine goesL_ (some 5) rfl rfl Try.func40 (by kernel_rfl) rfl #[.int .i32 a0] rfl (by (try simp only [List.map_toArray, List.map_cons, List.map_nil]); first | done | rfl | (simp only [List.length_drop, List.length_take]; rfl)) ?_; (with_reducible refine (lex_digit.calls a0 false _ A2.out).mono ?_); rintro e w' ⟨rfl, ⟨nd, rfl⟩⟩; refine ⟨_, rfl, ?_⟩))
    go_ret
    exact ⟨by first | rfl | (simp; done) | (simp [*]; done), by repeat (first | exact Drawn0.refl _ | apply Drawn0.step)⟩
   ·rw [if_neg c5] at H
    have c5b0 : decide (a0 ≤ 102) = false := decide_eq_false c5
    clear c5
    obtain rfl := Option.some.inj H
    go_enter Try.func50, Try.ntmps50
    go_wp2_with (first | ((with_reducible refine gate_callee (f := 40) rfl ?_); refine goesL_ (some 5) rfl rfl Try.func40 (by kernel_rfl) rfl #[.int .i32 a0] rfl (by (try simp only [List.map_toArray, List.map_cons, List.map_nil]); first | done | rfl | (simp only [List.length_drop, List.length_take]; rfl)) ?_; (with_reducible refine (lex_digit.calls a0 false _ A2.out).mono ?_); rintro e w' ⟨rfl, ⟨nd, rfl⟩⟩; refine ⟨_, rfl, ?_⟩))
    go_ret
    exact ⟨by first | rfl | (simp; done) | (simp [*]; done), by repeat (first | exact Drawn0.refl _ | apply Drawn0.step)⟩
  ·rw [if_neg c4] at H
   have c4b0 : decide (97 ≤ a0) = false := decide_eq_false c4
   clear c4
   obtain rfl := Option.some.inj H
   go_enter Try.func50, Try.ntmps50
   go_wp2_with (first | ((with_reducible refine gate_callee (f := 40) rfl ?_); refine goesL_ (some 5) rfl rfl Try.func40 (by kernel_rfl) rfl #[.int .i32 a0] rfl (by (try simp only [List.map_toArray, List.map_cons, List.map_nil]); first | done | rfl | (simp only [List.length_drop, List.length_take]; rfl)) ?_; (with_reducible refine (lex_digit.calls a0 false _ A2.out).mono ?_); rintro e w' ⟨rfl, ⟨nd, rfl⟩⟩; refine ⟨_, rfl, ?_⟩))
   go_ret
   exact ⟨by first | rfl | (simp; done) | (simp [*]; done), by repeat (first | exact Drawn0.refl _ | apply Drawn0.step)⟩
-- HAND rounds=True making=True
def lex_number.l0 : Nat → ByteArray → Int → Nat → Int → Option (Int × Bool)
  | 0, _, _, _, _ => none
  | k + 1, s, base, pos, n => if pos < s.size then ((lex_worth.f ((Utf8.decode s pos).1 : Int)).bind fun d => if d ≥ base then some (0, false) else (if n > (IntKind.u64.wrap (Int.tdiv (IntKind.u64.wrap (18446744073709551615 - d)) base)) then some (0, false) else lex_number.l0 k s base (pos + (Utf8.decode s pos).2) (IntKind.u64.wrap ((IntKind.u64.wrap (n * base)) + d)))) else some (n, true)
def lex_number.f (k : Nat) (a0 : ByteArray) : Option (Int × Bool) := if (a0.size : Int) > 1 then (if (bt a0 0) = 48 then (if (bt a0 1) = 120 then (if (a0.size : Int) < 3 then some (0, false) else (if (a0.size : Int) > 18 then some (0, false) else lex_number.l0 k (a0.extract 2 a0.size) 16 0 0)) else some (0, false)) else lex_number.l0 k a0 10 0 0) else lex_number.l0 k a0 10 0 0
set_option maxHeartbeats 8000000 in
set_option maxRecDepth 100000 in
theorem lex_number.calls (k : Nat) (a0 : ByteArray) (r1 : Int) (r2 : Bool) (w : World) (h : lex_number.f k a0 = some (r1, r2)) :
    Calls Try.prog 41 #[.string a0] w fun e w' => e = .returned (.tuple #[.int .u64 r1, .bool r2]) ∧ Below w.heap.size w w' := by
  unfold lex_number.f at h
  go_enter Try.func41, Try.ntmps41
  by_cases c1 : (a0.size : Int) > 1
  · rw [if_pos c1] at h
    have c1b0 : decide (1 < (a0.size : Int)) = true := decide_eq_true c1
    have c1b1 : decide (1 < a0.size) = true := decide_eq_true (by omega)
    have hx0 : ∀ h : 0 < a0.size, ((a0[0]'h).toNat : Int) = bt a0 0 := bt_at a0 0
    have hx1 : ∀ h : 1 < a0.size, ((a0[1]'h).toNat : Int) = bt a0 1 := bt_at a0 1
    have q0 : (0 < a0.size) = True := eq_true (by omega)
    have qi0 : (0 < (a0.size : Int)) = True := eq_true (by omega)
    have q1 : (1 < a0.size) = True := eq_true (by omega)
    have qi1 : (1 < (a0.size : Int)) = True := eq_true (by omega)
    by_cases c2 : (bt a0 0) = 48
    · rw [if_pos c2] at h
      have c2b0 : ((bt a0 0) == 48) = true := beq_iff_eq.mpr c2
      have c2b1 : ((bt a0 0) != 48) = false := bne_eq_false_iff_eq.mpr c2
      by_cases c3 : (bt a0 1) = 120
      · rw [if_pos c3] at h
        have c3b0 : ((bt a0 1) == 120) = true := beq_iff_eq.mpr c3
        have c3b1 : ((bt a0 1) != 120) = false := bne_eq_false_iff_eq.mpr c3
        clear c2 c3
        by_cases c4 : (a0.size : Int) < 3
        · rw [if_pos c4] at h
          obtain ⟨rfl, rfl⟩ := Prod.mk.inj (Option.some.inj h)
          clear h
          have c4b0 : decide ((a0.size : Int) < 3) = true := decide_eq_true c4
          have c4b1 : decide (a0.size < 3) = true := decide_eq_true (by omega)
          clear c1 c4
          go_wp2
          go_ret2
          exact ⟨rfl, by first | exact Below.refl _ _ | exact (Below.refl _ _).drew⟩
        · rw [if_neg c4] at h
          have c4b0 : decide ((a0.size : Int) < 3) = false := decide_eq_false c4
          have c4b1 : decide (a0.size < 3) = false := decide_eq_false (by omega)
          by_cases c5 : (a0.size : Int) > 18
          · rw [if_pos c5] at h
            obtain ⟨rfl, rfl⟩ := Prod.mk.inj (Option.some.inj h)
            clear h
            have c5b0 : decide (18 < (a0.size : Int)) = true := decide_eq_true c5
            have c5b1 : decide (18 < a0.size) = true := decide_eq_true (by omega)
            clear c1 c4 c5
            go_wp2
            go_ret2
            exact ⟨rfl, by first | exact Below.refl _ _ | exact (Below.refl _ _).drew⟩
          · rw [if_neg c5] at h
            have c5b0 : decide (18 < (a0.size : Int)) = false := decide_eq_false c5
            have c5b1 : decide (18 < a0.size) = false := decide_eq_false (by omega)
            have q2 : (2 ≤ a0.size) = True := eq_true (by omega)
            have qi2 : (2 ≤ (a0.size : Int)) = True := eq_true (by omega)
            clear c1 c4 c5
            have H' := Aside0.mk h
            clear h
            go_wp2
            go_quiet (fail)
            generalize hz : w.drewN nq = wz
            have hzs : Aside0 (wz.heap.size = w.heap.size) := ⟨by rw [← hz]; rfl⟩
            have hzB : Below w.heap.size w wz := by rw [← hz]; exact ⟨rfl, rfl, rfl, Nat.le_refl _, fun _ _ => rfl⟩
            clear hz
            try go_wp2
            go_loopg [6] k (fun kq v6 w' => ∃ (pos m : Nat) (x : Int), v6 = .int .u64 x ∧ w' = (wz.iter (a0.extract 2 a0.size) pos).drewN m ∧ Aside0 (lex_number.l0 kq (a0.extract 2 a0.size) 16 pos x = some (r1, r2)))
            case atStart => exact ⟨0, 0, 0, rfl, rfl, H'⟩
            case round =>
              clear H'
              obtain ⟨pos, m, x, rfl, rfl, HA⟩ := hrel
              cases gk with
              | zero => exact absurd HA.out (by simp [lex_number.l0])
              | succ k1 =>
                have H := HA.out
                clear HA
                simp only [lex_number.l0] at H
                by_cases hp : pos < (a0.extract 2 a0.size).size
                · rw [if_pos hp] at H
                  have hnx : ∀ ty, (Instr.next (.pointer (some ⟨wz.heap.size, 0, none⟩)) true ty).run Try.prog ((wz.iter (a0.extract 2 a0.size) pos).drewN m) = _ := fun ty => Mine.iter_next wz (a0.extract 2 a0.size) pos m ty hp
                  clear hp
                  obtain ⟨d, A0, H⟩ := Option.bind_eq_some_iff.mp H
                  have A1 := Aside0.mk A0
                  clear A0
                  by_cases c6 : d ≥ 16
                  · rw [if_pos c6] at H
                    obtain ⟨rfl, rfl⟩ := Prod.mk.inj (Option.some.inj H)
                    clear H
                    have c6b0 : decide (16 ≤ d) = true := decide_eq_true c6
                    clear c6
                    go_wp2_with (first | (go_at_call 50; (with_reducible refine (lex_worth.calls _ d _ A1.out).mono ?_); rintro e w' ⟨rfl, ⟨nd, rfl⟩⟩))
                    go_ret2
                    exact ⟨rfl, hzB.trans (hzs.out ▸ (by first | exact Mine.iter_below _ _ _ _ | (rw [World.drewN_drewN]; exact Mine.iter_below _ _ _ _)))⟩
                  · rw [if_neg c6] at H
                    have c6b0 : decide (16 ≤ d) = false := decide_eq_false c6
                    clear c6
                    by_cases c7 : x > (IntKind.u64.wrap (Int.tdiv (IntKind.u64.wrap (18446744073709551615 - d)) 16))
                    · rw [if_pos c7] at H
                      obtain ⟨rfl, rfl⟩ := Prod.mk.inj (Option.some.inj H)
                      clear H
                      have c7b0 : decide ((IntKind.u64.wrap (Int.tdiv (IntKind.u64.wrap (18446744073709551615 - d)) 16)) < x) = true := decide_eq_true c7
                      clear c7
                      go_wp2_with (first | (go_at_call 50; (with_reducible refine (lex_worth.calls _ d _ A1.out).mono ?_); rintro e w' ⟨rfl, ⟨nd, rfl⟩⟩))
                      go_ret2
                      exact ⟨rfl, hzB.trans (hzs.out ▸ (by first | exact Mine.iter_below _ _ _ _ | (rw [World.drewN_drewN]; exact Mine.iter_below _ _ _ _)))⟩
                    · rw [if_neg c7] at H
                      have c7b0 : decide ((IntKind.u64.wrap (Int.tdiv (IntKind.u64.wrap (18446744073709551615 - d)) 16)) < x) = false := decide_eq_false c7
                      clear c7
                      have HB := Aside0.mk H
                      clear H
                      go_wp2_with (first | (go_at_call 50; (with_reducible refine (lex_worth.calls _ d _ A1.out).mono ?_); rintro e w' ⟨rfl, ⟨nd, rfl⟩⟩))
                      go_roundg k1
                      case measure => omega
                      case rel => exact ⟨pos + (Utf8.decode (a0.extract 2 a0.size) pos).2, _, _, rfl, by first | rfl | simp, HB⟩
                · rw [if_neg hp] at H
                  have hnx : ∀ ty, (Instr.next (.pointer (some ⟨wz.heap.size, 0, none⟩)) true ty).run Try.prog ((wz.iter (a0.extract 2 a0.size) pos).drewN m) = _ := fun ty => Mine.iter_end wz (a0.extract 2 a0.size) pos m ty hp
                  clear hp
                  obtain ⟨rfl, rfl⟩ := Prod.mk.inj (Option.some.inj H)
                  clear H
                  go_wp2
                  go_ret2
                  exact ⟨rfl, hzB.trans (hzs.out ▸ (by first | exact Mine.iter_below _ _ _ _ | (rw [World.drewN_drewN]; exact Mine.iter_below _ _ _ _)))⟩
      · rw [if_neg c3] at h
        obtain ⟨rfl, rfl⟩ := Prod.mk.inj (Option.some.inj h)
        clear h
        have c3b0 : ((bt a0 1) == 120) = false := beq_eq_false_iff_ne.mpr c3
        have c3b1 : ((bt a0 1) != 120) = true := bne_iff_ne.mpr c3
        clear c1 c2 c3
        go_wp2
        go_ret2
        exact ⟨rfl, by first | exact Below.refl _ _ | exact (Below.refl _ _).drew⟩
    · rw [if_neg c2] at h
      have c2b0 : ((bt a0 0) == 48) = false := beq_eq_false_iff_ne.mpr c2
      have c2b1 : ((bt a0 0) != 48) = true := bne_iff_ne.mpr c2
      clear c1 c2
      have H' := Aside0.mk h
      clear h
      go_wp2
      go_loopg [6] k (fun kq v6 w' => ∃ (pos m : Nat) (x : Int), v6 = .int .u64 x ∧ w' = (w.iter a0 pos).drewN m ∧ Aside0 (lex_number.l0 kq a0 10 pos x = some (r1, r2)))
      case atStart => exact ⟨0, 0, 0, rfl, rfl, H'⟩
      case round =>
        clear H'
        obtain ⟨pos, m, x, rfl, rfl, HA⟩ := hrel
        cases gk with
        | zero => exact absurd HA.out (by simp [lex_number.l0])
        | succ k1 =>
          have H := HA.out
          clear HA
          simp only [lex_number.l0] at H
          by_cases hp : pos < a0.size
          · rw [if_pos hp] at H
            have hnx : ∀ ty, (Instr.next (.pointer (some ⟨w.heap.size, 0, none⟩)) true ty).run Try.prog ((w.iter a0 pos).drewN m) = _ := fun ty => Mine.iter_next w a0 pos m ty hp
            clear hp
            obtain ⟨d, A0, H⟩ := Option.bind_eq_some_iff.mp H
            have A1 := Aside0.mk A0
            clear A0
            by_cases c6 : d ≥ 10
            · rw [if_pos c6] at H
              obtain ⟨rfl, rfl⟩ := Prod.mk.inj (Option.some.inj H)
              clear H
              have c6b0 : decide (10 ≤ d) = true := decide_eq_true c6
              clear c6
              go_wp2_with (first | (go_at_call 50; (with_reducible refine (lex_worth.calls _ d _ A1.out).mono ?_); rintro e w' ⟨rfl, ⟨nd, rfl⟩⟩))
              go_ret2
              exact ⟨rfl, by first | exact Mine.iter_below _ _ _ _ | (rw [World.drewN_drewN]; exact Mine.iter_below _ _ _ _)⟩
            · rw [if_neg c6] at H
              have c6b0 : decide (10 ≤ d) = false := decide_eq_false c6
              clear c6
              by_cases c7 : x > (IntKind.u64.wrap (Int.tdiv (IntKind.u64.wrap (18446744073709551615 - d)) 10))
              · rw [if_pos c7] at H
                obtain ⟨rfl, rfl⟩ := Prod.mk.inj (Option.some.inj H)
                clear H
                have c7b0 : decide ((IntKind.u64.wrap (Int.tdiv (IntKind.u64.wrap (18446744073709551615 - d)) 10)) < x) = true := decide_eq_true c7
                clear c7
                go_wp2_with (first | (go_at_call 50; (with_reducible refine (lex_worth.calls _ d _ A1.out).mono ?_); rintro e w' ⟨rfl, ⟨nd, rfl⟩⟩))
                go_ret2
                exact ⟨rfl, by first | exact Mine.iter_below _ _ _ _ | (rw [World.drewN_drewN]; exact Mine.iter_below _ _ _ _)⟩
              · rw [if_neg c7] at H
                have c7b0 : decide ((IntKind.u64.wrap (Int.tdiv (IntKind.u64.wrap (18446744073709551615 - d)) 10)) < x) = false := decide_eq_false c7
                clear c7
                have HB := Aside0.mk H
                clear H
                go_wp2_with (first | (go_at_call 50; (with_reducible refine (lex_worth.calls _ d _ A1.out).mono ?_); rintro e w' ⟨rfl, ⟨nd, rfl⟩⟩))
                go_roundg k1
                case measure => omega
                case rel => exact ⟨pos + (Utf8.decode a0 pos).2, _, _, rfl, by first | rfl | simp, HB⟩
          · rw [if_neg hp] at H
            have hnx : ∀ ty, (Instr.next (.pointer (some ⟨w.heap.size, 0, none⟩)) true ty).run Try.prog ((w.iter a0 pos).drewN m) = _ := fun ty => Mine.iter_end w a0 pos m ty hp
            clear hp
            obtain ⟨rfl, rfl⟩ := Prod.mk.inj (Option.some.inj H)
            clear H
            go_wp2
            go_ret2
            exact ⟨rfl, by first | exact Mine.iter_below _ _ _ _ | (rw [World.drewN_drewN]; exact Mine.iter_below _ _ _ _)⟩
  · rw [if_neg c1] at h
    have c1b0 : decide (1 < (a0.size : Int)) = false := decide_eq_false c1
    have c1b1 : decide (1 < a0.size) = false := decide_eq_false (by omega)
    clear c1
    have H' := Aside0.mk h
    clear h
    go_wp2
    go_loopg [6] k (fun kq v6 w' => ∃ (pos m : Nat) (x : Int), v6 = .int .u64 x ∧ w' = (w.iter a0 pos).drewN m ∧ Aside0 (lex_number.l0 kq a0 10 pos x = some (r1, r2)))
    case atStart => exact ⟨0, 0, 0, rfl, rfl, H'⟩
    case round =>
      clear H'
      obtain ⟨pos, m, x, rfl, rfl, HA⟩ := hrel
      cases gk with
      | zero => exact absurd HA.out (by simp [lex_number.l0])
      | succ k1 =>
        have H := HA.out
        clear HA
        simp only [lex_number.l0] at H
        by_cases hp : pos < a0.size
        · rw [if_pos hp] at H
          have hnx : ∀ ty, (Instr.next (.pointer (some ⟨w.heap.size, 0, none⟩)) true ty).run Try.prog ((w.iter a0 pos).drewN m) = _ := fun ty => Mine.iter_next w a0 pos m ty hp
          clear hp
          obtain ⟨d, A0, H⟩ := Option.bind_eq_some_iff.mp H
          have A1 := Aside0.mk A0
          clear A0
          by_cases c6 : d ≥ 10
          · rw [if_pos c6] at H
            obtain ⟨rfl, rfl⟩ := Prod.mk.inj (Option.some.inj H)
            clear H
            have c6b0 : decide (10 ≤ d) = true := decide_eq_true c6
            clear c6
            go_wp2_with (first | (go_at_call 50; (with_reducible refine (lex_worth.calls _ d _ A1.out).mono ?_); rintro e w' ⟨rfl, ⟨nd, rfl⟩⟩))
            go_ret2
            exact ⟨rfl, by first | exact Mine.iter_below _ _ _ _ | (rw [World.drewN_drewN]; exact Mine.iter_below _ _ _ _)⟩
          · rw [if_neg c6] at H
            have c6b0 : decide (10 ≤ d) = false := decide_eq_false c6
            clear c6
            by_cases c7 : x > (IntKind.u64.wrap (Int.tdiv (IntKind.u64.wrap (18446744073709551615 - d)) 10))
            · rw [if_pos c7] at H
              obtain ⟨rfl, rfl⟩ := Prod.mk.inj (Option.some.inj H)
              clear H
              have c7b0 : decide ((IntKind.u64.wrap (Int.tdiv (IntKind.u64.wrap (18446744073709551615 - d)) 10)) < x) = true := decide_eq_true c7
              clear c7
              go_wp2_with (first | (go_at_call 50; (with_reducible refine (lex_worth.calls _ d _ A1.out).mono ?_); rintro e w' ⟨rfl, ⟨nd, rfl⟩⟩))
              go_ret2
              exact ⟨rfl, by first | exact Mine.iter_below _ _ _ _ | (rw [World.drewN_drewN]; exact Mine.iter_below _ _ _ _)⟩
            · rw [if_neg c7] at H
              have c7b0 : decide ((IntKind.u64.wrap (Int.tdiv (IntKind.u64.wrap (18446744073709551615 - d)) 10)) < x) = false := decide_eq_false c7
              clear c7
              have HB := Aside0.mk H
              clear H
              go_wp2_with (first | (go_at_call 50; (with_reducible refine (lex_worth.calls _ d _ A1.out).mono ?_); rintro e w' ⟨rfl, ⟨nd, rfl⟩⟩))
              go_roundg k1
              case measure => omega
              case rel => exact ⟨pos + (Utf8.decode a0 pos).2, _, _, rfl, by first | rfl | simp, HB⟩
        · rw [if_neg hp] at H
          have hnx : ∀ ty, (Instr.next (.pointer (some ⟨w.heap.size, 0, none⟩)) true ty).run Try.prog ((w.iter a0 pos).drewN m) = _ := fun ty => Mine.iter_end w a0 pos m ty hp
          clear hp
          obtain ⟨rfl, rfl⟩ := Prod.mk.inj (Option.some.inj H)
          clear H
          go_wp2
          go_ret2
          exact ⟨rfl, by first | exact Mine.iter_below _ _ _ _ | (rw [World.drewN_drewN]; exact Mine.iter_below _ _ _ _)⟩
end Go.Proofs.Ytfahchgglapglaa.M
