-- Laid by a program (wip/tools/myprint.py) out of the loaded program's own print: for each Go function a Lean function and the proof of its contract.
import Derived.Test.YtfahchgglapglaaQMx0
import Derived.Test.YtfahchgglapglaaQMx11
namespace Go.Proofs.Ytfahchgglapglaa.M
open Go.RowKit Go.Proofs.YtfahchgglapglaaW.PrintWords Go.Proofs.YtfahchgglapglaaW.PrintLast Go.Proofs.YtfahchgglapglaaW.PrintMore
attribute [local go_sem] max2_int min2_int max_two min_two max_three min_three max_four min_four   -- for this text's walks alone
set_option linter.unusedVariables false
set_option linter.unusedSimpArgs false
mutual
def fairleadref09_Number.j0 : Nat → ByteArray → Int → ByteArray → Bool → Option (Int × Bool)
 | 0, _, _, _, _ => none
 | k + 1, x0, x4, x5, x18 => if x18 = true then (if 1 < (x0.size : Int) then (if (bt x0 1) = 120 then (if (x0.size : Int) < 3 then (some (0, false)) else (if (x0.size : Int) > 18 then (some (0, false)) else (if 2 ≤ (x0.size : Int) then (fairleadref09_Number.j1 k 16 (x0.extract 2 x0.size)) else (none)))) else (some (0, false))) else (none)) else (fairleadref09_Number.j1 k x4 x5)
def fairleadref09_Number.j1 : Nat → Int → ByteArray → Option (Int × Bool)
 | 0, _, _ => none
 | k + 1, x4, x5 => fairleadref09_Number.l0 k x4 x5 0 0
def fairleadref09_Number.l0 : Nat → Int → ByteArray → Int → Int → Option (Int × Bool)
 | 0, _, _, _, _ => none
 | k + 1, x4, x5, x6, x7 => if x7 < (x5.size : Int) then (if 0 ≤ x7 then ((fairleadref09_digit.f (bt x5 x7)).bind fun t141 => (if t141 = true then (fairleadref09_Number.j3 k x4 x5 x6 x7 (bt x5 x7) (((bt x5 x7) - 48) % 256)) else (fairleadref09_Number.j3 k x4 x5 x6 x7 (bt x5 x7) 99))) else (none)) else (some (x6, decide ((x5.size : Int) > 0)))
def fairleadref09_Number.j3 : Nat → Int → ByteArray → Int → Int → Int → Int → Option (Int × Bool)
 | 0, _, _, _, _, _, _ => none
 | k + 1, x4, x5, x6, x7, x8, x9 => if x8 ≥ 97 then (fairleadref09_Number.j4 k x4 x5 x6 x7 x8 x9 (decide (x8 ≤ 102))) else (fairleadref09_Number.j4 k x4 x5 x6 x7 x8 x9 false)
def fairleadref09_Number.j4 : Nat → Int → ByteArray → Int → Int → Int → Int → Bool → Option (Int × Bool)
 | 0, _, _, _, _, _, _, _ => none
 | k + 1, x4, x5, x6, x7, x8, x9, x53 => if x53 = true then (if (((x8 - 97) % 256) + 10) ≥ x4 then (some (0, false)) else (if x4 = 0 then (none) else (if x6 > (IntKind.u64.wrap (Int.tdiv (18446744073709551615 - (((x8 - 97) % 256) + 10)) x4)) then (some (0, false)) else (fairleadref09_Number.l0 k x4 x5 (IntKind.u64.wrap ((IntKind.u64.wrap (x6 * x4)) + (((x8 - 97) % 256) + 10))) (wrap64 (x7 + 1)))))) else (if x9 ≥ x4 then (some (0, false)) else (if x4 = 0 then (none) else (if x6 > (IntKind.u64.wrap (Int.tdiv (IntKind.u64.wrap (18446744073709551615 - x9)) x4)) then (some (0, false)) else (fairleadref09_Number.l0 k x4 x5 (IntKind.u64.wrap ((IntKind.u64.wrap (x6 * x4)) + x9)) (wrap64 (x7 + 1))))))
end
def fairleadref09_Number.f (k : Nat) (a0 : ByteArray) : Option (Int × Bool) := if (a0.size : Int) > 1 then (if 0 < (a0.size : Int) then (fairleadref09_Number.j0 k a0 10 a0 ((bt a0 0) == 48)) else (none)) else (fairleadref09_Number.j0 k a0 10 a0 false)
set_option maxHeartbeats 8000000 in
set_option maxRecDepth 100000 in
theorem fairleadref09_Number.calls (k : Nat) (a0 : ByteArray) (r1 : Int) (r2 : Bool) (w : World) (h : fairleadref09_Number.f k a0 = some (r1, r2)) :
  Calls Try.prog 48 #[.string a0] w fun e w' => e = .returned (.tuple #[.int .u64 r1, .bool r2]) ∧ Drawn0 w w' := by
 have H : (if (a0.size : Int) > 1 then (if 0 < (a0.size : Int) then (fairleadref09_Number.j0 k a0 10 a0 ((bt a0 0) == 48)) else (none)) else (fairleadref09_Number.j0 k a0 10 a0 false)) = some (r1, r2) := h
 clear h
 have HC2 := Aside0.mk H
 clear H
 go_enter Try.func48, Try.ntmps48
 go_upto_region 3 with (fail)
 go_cut [18] (fun v18 wc => ∃ (kq : Nat) (x18_1 : Bool), v18 = .bool x18_1 ∧ Aside0 (fairleadref09_Number.j0 kq a0 10 a0 x18_1 = some (r1, r2)) ∧ Aside0 (kq ≤ k) ∧ Drawn0 w wc)
 case first =>
  have H := HC2.out
  clear HC2
  by_cases c3 : (a0.size : Int) > 1
  ·rw [if_pos c3] at H
   have c3b0 : decide (1 < (a0.size : Int)) = true := decide_eq_true c3
   have c3b1 : decide (1 < a0.size) = true := decide_eq_true (by omega)
   clear c3
   (first | rw [c3b0] | (simp only [i64_w, i32_w]; rw [c3b0]) | skip)
   by_cases c4 : 0 < (a0.size : Int)
   ·rw [if_pos c4] at H
    have c4b0 : decide (0 < (a0.size : Int)) = true := decide_eq_true c4
    have c4b1 : decide (0 < a0.size) = true := decide_eq_true (by omega)
    clear c4
    have H' := Aside0.mk H
    clear H
    have p5 : 0 ≤ (0 : Int) := (by omega)
    have q5 : 0 < a0.size := (by have : (0 : Int) < (a0.size : Int) := of_decide_eq_true (by first | (with_reducible assumption) | assumption); omega)
    have hx5 : ∀ h : 0 < a0.size, ((a0[0]'h).toNat : Int) = bt a0 0 := bt_at a0 0
    clear p5
    have qi5 : (0 < (a0.size : Int)) = True := eq_true (of_decide_eq_true (by first | (with_reducible assumption) | assumption))
    replace q5 := eq_true q5
    go_wp2
    go_meet
    case rel => exact ⟨_, (((bt a0 0) == 48)), (by first | rfl | (simp; done) | (simp [*]; done)), H', ⟨by first | omega | exact Nat.le_refl _⟩, by repeat (first | exact Drawn0.refl _ | apply Drawn0.step)⟩
   ·rw [if_neg c4] at H
    exact absurd H (by simp)
  ·rw [if_neg c3] at H
   have c3b0 : decide (1 < (a0.size : Int)) = false := decide_eq_false c3
   have c3b1 : decide (1 < a0.size) = false := decide_eq_false (by omega)
   clear c3
   (first | rw [c3b0] | (simp only [i64_w, i32_w]; rw [c3b0]) | skip)
   have H' := Aside0.mk H
   clear H
   go_wp2
   go_meet
   case rel => exact ⟨_, (false), (by first | rfl | (simp; done) | (simp [*]; done)), H', ⟨by first | omega | exact Nat.le_refl _⟩, by repeat (first | exact Drawn0.refl _ | apply Drawn0.step)⟩
 case rest =>
  clear HC2
  try clear p2
  try clear c3
  try clear c3b0
  try clear c3b1
  try clear c4
  try clear c4b0
  try clear c4b1
  try clear p5
  try clear q5
  try clear hx5
  try clear qi5
  try clear p5
  try clear q5
  obtain ⟨kq, x18_1, rfl, HA, HJ1, ⟨mc1, rfl⟩⟩ := hcut
  cases kq with
  | zero => exact absurd HA.out (by simp [fairleadref09_Number.j0])
  | succ kj1 =>
   have H := HA.out
   clear HA
   simp only [fairleadref09_Number.j0] at H
   have HC6 := Aside0.mk H
   clear H
   go_upto_if 18 with (fail)
   go_cut [4, 5] (fun v4 v5 wc => ∃ (kq : Nat) (x4_5 : Int) (x5_5 : ByteArray), v4 = .int .u64 x4_5 ∧ v5 = .string x5_5 ∧ Aside0 (fairleadref09_Number.j1 kq x4_5 x5_5 = some (r1, r2)) ∧ Aside0 (kq ≤ kj1) ∧ Drawn0 w wc)
   case first =>
    have H := HC6.out
    clear HC6
    by_cases c7 : x18_1 = true
    ·subst c7
     have H1 : (if 1 < (a0.size : Int) then (if (bt a0 1) = 120 then (if (a0.size : Int) < 3 then (some (0, false)) else (if (a0.size : Int) > 18 then (some (0, false)) else (if 2 ≤ (a0.size : Int) then (fairleadref09_Number.j1 kj1 16 (a0.extract 2 a0.size)) else (none)))) else (some (0, false))) else (none)) = some (r1, r2) := by rw [if_pos rfl] at H; exact H
     clear H
     have H := H1
     clear H1
     by_cases c8 : 1 < (a0.size : Int)
     ·rw [if_pos c8] at H
      have c8b0 : decide (1 < (a0.size : Int)) = true := decide_eq_true c8
      have c8b1 : decide (1 < a0.size) = true := decide_eq_true (by omega)
      clear c8
      (first | rw [c8b0] | (simp only [i64_w, i32_w]; rw [c8b0]) | skip)
      by_cases c10 : (bt a0 1) = 120
      ·rw [if_pos c10] at H
       have c10b0 : ((bt a0 1) == 120) = true := beq_iff_eq.mpr c10
       have c10b1 : ((bt a0 1) != 120) = false := bne_eq_false_iff_eq.mpr c10
       clear c10
       by_cases c11 : (a0.size : Int) < 3
       ·rw [if_pos c11] at H
        have c11b0 : decide ((a0.size : Int) < 3) = true := decide_eq_true c11
        have c11b1 : decide (a0.size < 3) = true := decide_eq_true (by omega)
        clear c11
        simp only [Option.some.injEq, Prod.mk.injEq] at H
        obtain ⟨rfl, rfl⟩ := H
        have p9 : 0 ≤ (1 : Int) := (by omega)
        have q9 : 1 < a0.size := (by have : (1 : Int) < (a0.size : Int) := of_decide_eq_true (by first | (with_reducible assumption) | assumption); omega)
        have hx9 : ∀ h : 1 < a0.size, ((a0[1]'h).toNat : Int) = bt a0 1 := bt_at a0 1
        clear p9
        have qi9 : (1 < (a0.size : Int)) = True := eq_true (of_decide_eq_true (by first | (with_reducible assumption) | assumption))
        replace q9 := eq_true q9
        go_wp2
        go_ret2
        exact ⟨by first | rfl | (simp; done) | (simp [*]; done), by repeat (first | exact Drawn0.refl _ | apply Drawn0.step)⟩
       ·rw [if_neg c11] at H
        have c11b0 : decide ((a0.size : Int) < 3) = false := decide_eq_false c11
        have c11b1 : decide (a0.size < 3) = false := decide_eq_false (by omega)
        clear c11
        by_cases c12 : (a0.size : Int) > 18
        ·rw [if_pos c12] at H
         have c12b0 : decide (18 < (a0.size : Int)) = true := decide_eq_true c12
         have c12b1 : decide (18 < a0.size) = true := decide_eq_true (by omega)
         clear c12
         simp only [Option.some.injEq, Prod.mk.injEq] at H
         obtain ⟨rfl, rfl⟩ := H
         have p9 : 0 ≤ (1 : Int) := (by omega)
         have q9 : 1 < a0.size := (by have : (1 : Int) < (a0.size : Int) := of_decide_eq_true (by first | (with_reducible assumption) | assumption); omega)
         have hx9 : ∀ h : 1 < a0.size, ((a0[1]'h).toNat : Int) = bt a0 1 := bt_at a0 1
         clear p9
         have qi9 : (1 < (a0.size : Int)) = True := eq_true (of_decide_eq_true (by first | (with_reducible assumption) | assumption))
         replace q9 := eq_true q9
         go_wp2
         go_ret2
         exact ⟨by first | rfl | (simp; done) | (simp [*]; done), by repeat (first | exact Drawn0.refl _ | apply Drawn0.step)⟩
        ·rw [if_neg c12] at H
         have c12b0 : decide (18 < (a0.size : Int)) = false := decide_eq_false c12
         have c12b1 : decide (18 < a0.size) = false := decide_eq_false (by omega)
         clear c12
         by_cases c13 : 2 ≤ (a0.size : Int)
         ·rw [if_pos c13] at H
          have c13b0 := eq_true c13
          have c13b1 : decide (2 ≤ (a0.size : Int)) = true := decide_eq_true c13
          clear c13
          have H' := Aside0.mk H
          clear H
          have p9 : 0 ≤ (1 : Int) := (by omega)
          have q9 : 1 < a0.size := (by have : (1 : Int) < (a0.size : Int) := of_decide_eq_true (by first | (with_reducible assumption) | assumption); omega)
          have hx9 : ∀ h : 1 < a0.size, ((a0[1]'h).toNat : Int) = bt a0 1 := bt_at a0 1
          clear p9
          have qi9 : (1 < (a0.size : Int)) = True := eq_true (of_decide_eq_true (by first | (with_reducible assumption) | assumption))
          replace q9 := eq_true q9
          go_wp2
          go_meet
          case rel => exact ⟨_, (16), (a0.extract 2 a0.size), (by first | rfl | (simp; done) | (simp [*]; done)), (by first | rfl | (simp; done) | (simp [*]; done)), H', ⟨by have := HJ1.out; first | omega | exact Nat.le_refl _⟩, by repeat (first | exact Drawn0.refl _ | apply Drawn0.step)⟩
         ·rw [if_neg c13] at H
          exact absurd H (by simp)
      ·rw [if_neg c10] at H
       have c10b0 : ((bt a0 1) == 120) = false := beq_eq_false_iff_ne.mpr c10
       have c10b1 : ((bt a0 1) != 120) = true := bne_iff_ne.mpr c10
       simp only [Option.some.injEq, Prod.mk.injEq] at H
       obtain ⟨rfl, rfl⟩ := H
       have p9 : 0 ≤ (1 : Int) := (by omega)
       have q9 : 1 < a0.size := (by have : (1 : Int) < (a0.size : Int) := of_decide_eq_true (by first | (with_reducible assumption) | assumption); omega)
       have hx9 : ∀ h : 1 < a0.size, ((a0[1]'h).toNat : Int) = bt a0 1 := bt_at a0 1
       clear p9
       have qi9 : (1 < (a0.size : Int)) = True := eq_true (of_decide_eq_true (by first | (with_reducible assumption) | assumption))
       replace q9 := eq_true q9
       go_wp2
       go_ret2
       exact ⟨by first | rfl | (simp; done) | (simp [*]; done), by repeat (first | exact Drawn0.refl _ | apply Drawn0.step)⟩
     ·rw [if_neg c8] at H
      exact absurd H (by simp)
    ·replace c7 := Bool.eq_false_iff.mpr c7
     subst c7
     have H1 : (fairleadref09_Number.j1 kj1 10 a0) = some (r1, r2) := by rw [if_neg (show ¬ (false = true) by decide)] at H; exact H
     clear H
     have H := H1
     clear H1
     have H' := Aside0.mk H
     clear H
     go_wp2
     go_meet
     case rel => exact ⟨_, (10), (a0), (by first | rfl | (simp; done) | (simp [*]; done)), (by first | rfl | (simp; done) | (simp [*]; done)), H', ⟨by have := HJ1.out; first | omega | exact Nat.le_refl _⟩, by repeat (first | exact Drawn0.refl _ | apply Drawn0.step)⟩
   case rest =>
    clear HC6
    try clear c1
    try clear p2
    try clear c3
    try clear c3b0
    try clear c3b1
    try clear c4
    try clear c4b0
    try clear c4b1
    try clear p5
    try clear q5
    try clear hx5
    try clear qi5
    try clear c7
    try clear c8
    try clear c8b0
    try clear c8b1
    try clear p9
    try clear q9
    try clear hx9
    try clear qi9
    try clear c10
    try clear c10b0
    try clear c10b1
    try clear c11
    try clear c11b0
    try clear c11b1
    try clear c12
    try clear c12b0
    try clear c12b1
    try clear c13
    try clear c13b0
    try clear c13b1
    try clear p2
    try clear p5
    try clear p9
    try clear q5
    try clear q9
    obtain ⟨kq, x4_5, x5_5, rfl, rfl, HA, HJ5, ⟨mc5, rfl⟩⟩ := hcut
    cases kq with
    | zero => exact absurd HA.out (by simp [fairleadref09_Number.j1])
    | succ kj5 =>
     have H := HA.out
     clear HA
     simp only [fairleadref09_Number.j1] at H
     have H' := Aside0.mk H
     clear H
     go_wp2
     go_loopg [6, 7] kj5 (fun kq v6 v7 w' => ∃ (x6_3 : Int) (x7_3 : Int), v6 = .int .u64 x6_3 ∧ v7 = .int .i64 x7_3 ∧ Aside0 (fairleadref09_Number.l0 kq x4_5 x5_5 x6_3 x7_3 = some (r1, r2)) ∧ Aside0 (kq ≤ kj5) ∧ Drawn0 w w')
     case atStart => exact ⟨(0), (0), (by first | rfl | (simp; done) | (simp [*]; done)), (by first | rfl | (simp; done) | (simp [*]; done)), H', ⟨Nat.le_refl _⟩, by repeat (first | exact Drawn0.refl _ | apply Drawn0.step)⟩
     case round =>
      clear H'
      try clear c1
      try clear p2
      try clear c3
      try clear c3b0
      try clear c3b1
      try clear c4
      try clear c4b0
      try clear c4b1
      try clear c5
      try clear p5
      try clear q5
      try clear hx5
      try clear qi5
      try clear c7
      try clear c8
      try clear c8b0
      try clear c8b1
      try clear p9
      try clear q9
      try clear hx9
      try clear qi9
      try clear c10
      try clear c10b0
      try clear c10b1
      try clear c11
      try clear c11b0
      try clear c11b1
      try clear c12
      try clear c12b0
      try clear c12b1
      try clear c13
      try clear c13b0
      try clear c13b1
      try clear p2
      try clear p5
      try clear p9
      try clear q5
      try clear q9
      obtain ⟨x6_3, x7_3, rfl, rfl, HA, HK3, ⟨m3, rfl⟩⟩ := hrel
      cases gk with
      | zero => exact absurd HA.out (by simp [fairleadref09_Number.l0])
      | succ k3 =>
       have H := HA.out
       clear HA
       simp only [fairleadref09_Number.l0] at H
       by_cases c14 : x7_3 < (x5_5.size : Int)
       ·rw [if_pos c14] at H
        have c14b0 : decide (x7_3 < (x5_5.size : Int)) = true := decide_eq_true c14
        clear c14
        by_cases c15 : 0 ≤ x7_3
        ·rw [if_pos c15] at H
         have c15b0 : decide (0 ≤ x7_3) = true := decide_eq_true c15
         clear c15
         replace H := Option.bind_eq_some_iff.mp H
         obtain ⟨t141, A170, H⟩ := H
         replace H : (if t141 = true then (fairleadref09_Number.j3 k3 x4_5 x5_5 x6_3 x7_3 (bt x5_5 x7_3) (((bt x5_5 x7_3) - 48) % 256)) else (fairleadref09_Number.j3 k3 x4_5 x5_5 x6_3 x7_3 (bt x5_5 x7_3) 99)) = some (r1, r2) := H
         have A17 := Aside0.mk A170
         clear A170
         have HC18 := Aside0.mk H
         clear H
         have p16 : 0 ≤ (x7_3 : Int) := of_decide_eq_true (by first | (with_reducible assumption) | assumption)
         have q16 : x7_3 < (x5_5.size : Int) := of_decide_eq_true (by first | (with_reducible assumption) | assumption)
         have hx16 := bt_at x5_5 x7_3
         replace p16 := eq_true p16
         replace q16 := eq_true q16
         go_upto_if 44 with (first | ((with_reducible refine gate_callee (f := 47) rfl ?_); refine goesL_ (some 44) rfl rfl Try.func47 (by kernel_rfl) rfl #[.int .u8 (bt x5_5 x7_3)] rfl (by (try simp only [List.map_toArray, List.map_cons, List.map_nil]); first | done | rfl | (simp only [List.length_drop, List.length_take]; rfl)) ?_; (with_reducible refine (fairleadref09_digit.calls (bt x5_5 x7_3) t141 _ A17.out).mono ?_); rintro e w' ⟨rfl, ⟨nd, rfl⟩⟩; refine ⟨_, rfl, ?_⟩))
         (try simp only [Act.put, List.setIfInBounds_toArray, List.set_cons_zero, List.set_cons_succ])
         go_cut [9] (fun v9 wc => ∃ (kq : Nat) (x9_17 : Int), v9 = .int .u64 x9_17 ∧ Aside0 (fairleadref09_Number.j3 kq x4_5 x5_5 x6_3 x7_3 (bt x5_5 x7_3) x9_17 = some (r1, r2)) ∧ Aside0 (kq ≤ k3) ∧ Drawn0 w wc)
         case first =>
          have H := HC18.out
          clear HC18
          by_cases c19 : t141 = true
          ·subst c19
           have H1 : (fairleadref09_Number.j3 k3 x4_5 x5_5 x6_3 x7_3 (bt x5_5 x7_3) (((bt x5_5 x7_3) - 48) % 256)) = some (r1, r2) := by rw [if_pos rfl] at H; exact H
           clear H
           have H := H1
           clear H1
           have H' := Aside0.mk H
           clear H
           go_wp2
           go_meet
           case rel => exact ⟨_, (((bt x5_5 x7_3) - 48) % 256), (by first | rfl | (simp; done) | (simp [*]; done)), H', ⟨by have := HJ1.out; have := HJ5.out; have := HK3.out; first | omega | exact Nat.le_refl _⟩, by repeat (first | exact Drawn0.refl _ | apply Drawn0.step)⟩
          ·replace c19 := Bool.eq_false_iff.mpr c19
           subst c19
           have H1 : (fairleadref09_Number.j3 k3 x4_5 x5_5 x6_3 x7_3 (bt x5_5 x7_3) 99) = some (r1, r2) := by rw [if_neg (show ¬ (false = true) by decide)] at H; exact H
           clear H
           have H := H1
           clear H1
           have H' := Aside0.mk H
           clear H
           go_wp2
           go_meet
           case rel => exact ⟨_, (99), (by first | rfl | (simp; done) | (simp [*]; done)), H', ⟨by have := HJ1.out; have := HJ5.out; have := HK3.out; first | omega | exact Nat.le_refl _⟩, by repeat (first | exact Drawn0.refl _ | apply Drawn0.step)⟩
         case rest =>
          clear HC18
          try clear c1
          try clear p1
          try clear q1
          try clear hx1
          try clear p2
          try clear c3
          try clear c3b0
          try clear c3b1
          try clear c4
          try clear c4b0
          try clear c4b1
          try clear c5
          try clear p5
          try clear q5
          try clear hx5
          try clear qi5
          try clear c7
          try clear c8
          try clear c8b0
          try clear c8b1
          try clear p9
          try clear q9
          try clear hx9
          try clear qi9
          try clear c10
          try clear c10b0
          try clear c10b1
          try clear c11
          try clear c11b0
          try clear c11b1
          try clear c12
          try clear c12b0
          try clear c12b1
          try clear c13
          try clear c13b0
          try clear c13b1
          try clear c14
          try clear c14b0
          try clear c15
          try clear c15b0
          try clear p16
          try clear q16
          try clear hx16
          try clear c19
          try clear p16
          try clear p2
          try clear p5
          try clear p9
          try clear q16
          try clear q5
          try clear q9
          obtain ⟨kq, x9_17, rfl, HA, HJ17, ⟨mc17, rfl⟩⟩ := hcut
          cases kq with
          | zero => exact absurd HA.out (by simp [fairleadref09_Number.j3])
          | succ kj17 =>
           have H := HA.out
           clear HA
           simp only [fairleadref09_Number.j3] at H
           have HC20 := Aside0.mk H
           clear H
           go_upto_region 16 with (fail)
           go_cut [53] (fun v53 wc => ∃ (kq : Nat) (x53_19 : Bool), v53 = .bool x53_19 ∧ Aside0 (fairleadref09_Number.j4 kq x4_5 x5_5 x6_3 x7_3 (bt x5_5 x7_3) x9_17 x53_19 = some (r1, r2)) ∧ Aside0 (kq ≤ kj17) ∧ Drawn0 w wc)
           case first =>
            have H := HC20.out
            clear HC20
            by_cases c21 : (bt x5_5 x7_3) ≥ 97
            ·rw [if_pos c21] at H
             have c21b0 : decide (97 ≤ (bt x5_5 x7_3)) = true := decide_eq_true c21
             clear c21
             (first | rw [c21b0] | (simp only [i64_w, i32_w]; rw [c21b0]) | skip)
             have H' := Aside0.mk H
             clear H
             go_wp2
             go_meet
             case rel => exact ⟨_, (decide ((bt x5_5 x7_3) ≤ 102)), (by first | rfl | (simp; done) | (simp [*]; done)), H', ⟨by have := HJ1.out; have := HJ5.out; have := HK3.out; have := HJ17.out; first | omega | exact Nat.le_refl _⟩, by repeat (first | exact Drawn0.refl _ | apply Drawn0.step)⟩
            ·rw [if_neg c21] at H
             have c21b0 : decide (97 ≤ (bt x5_5 x7_3)) = false := decide_eq_false c21
             clear c21
             (first | rw [c21b0] | (simp only [i64_w, i32_w]; rw [c21b0]) | skip)
             have H' := Aside0.mk H
             clear H
             go_wp2
             go_meet
             case rel => exact ⟨_, (false), (by first | rfl | (simp; done) | (simp [*]; done)), H', ⟨by have := HJ1.out; have := HJ5.out; have := HK3.out; have := HJ17.out; first | omega | exact Nat.le_refl _⟩, by repeat (first | exact Drawn0.refl _ | apply Drawn0.step)⟩
           case rest =>
            clear HC20
            try clear c1
            try clear p1
            try clear q1
            try clear hx1
            try clear c2
            try clear p2
            try clear c3
            try clear c3b0
            try clear c3b1
            try clear c4
            try clear c4b0
            try clear c4b1
            try clear c5
            try clear p5
            try clear q5
            try clear hx5
            try clear qi5
            try clear c7
            try clear c8
            try clear c8b0
            try clear c8b1
            try clear p9
            try clear q9
            try clear hx9
            try clear qi9
            try clear c10
            try clear c10b0
            try clear c10b1
            try clear c11
            try clear c11b0
            try clear c11b1
            try clear c12
            try clear c12b0
            try clear c12b1
            try clear c13
            try clear c13b0
            try clear c13b1
            try clear c14
            try clear c14b0
            try clear c15
            try clear c15b0
            try clear p16
            try clear q16
            try clear hx16
            try clear c17
            try clear c19
            try clear c21
            try clear c21b0
            try clear p1
            try clear p16
            try clear p2
            try clear p5
            try clear p9
            try clear q1
            try clear q16
            try clear q5
            try clear q9
            obtain ⟨kq, x53_19, rfl, HA, HJ19, ⟨mc19, rfl⟩⟩ := hcut
            cases kq with
            | zero => exact absurd HA.out (by simp [fairleadref09_Number.j4])
            | succ kj19 =>
             have H := HA.out
             clear HA
             simp only [fairleadref09_Number.j4] at H
             by_cases c22 : x53_19 = true
             ·subst c22
              have H1 : (if ((((bt x5_5 x7_3) - 97) % 256) + 10) ≥ x4_5 then (some (0, false)) else (if x4_5 = 0 then (none) else (if x6_3 > (IntKind.u64.wrap (Int.tdiv (18446744073709551615 - ((((bt x5_5 x7_3) - 97) % 256) + 10)) x4_5)) then (some (0, false)) else (fairleadref09_Number.l0 kj19 x4_5 x5_5 (IntKind.u64.wrap ((IntKind.u64.wrap (x6_3 * x4_5)) + ((((bt x5_5 x7_3) - 97) % 256) + 10))) (wrap64 (x7_3 + 1)))))) = some (r1, r2) := by rw [if_pos rfl] at H; exact H
              clear H
              have H := H1
              clear H1
              by_cases c23 : ((((bt x5_5 x7_3) - 97) % 256) + 10) ≥ x4_5
              ·rw [if_pos c23] at H
               have c23b0 : decide (x4_5 ≤ ((((bt x5_5 x7_3) - 97) % 256) + 10)) = true := decide_eq_true c23
               clear c23
               simp only [Option.some.injEq, Prod.mk.injEq] at H
               obtain ⟨rfl, rfl⟩ := H
               go_wp2
               go_ret2
               exact ⟨by first | rfl | (simp; done) | (simp [*]; done), by repeat (first | exact Drawn0.refl _ | apply Drawn0.step)⟩
              ·rw [if_neg c23] at H
               have c23b0 : decide (x4_5 ≤ ((((bt x5_5 x7_3) - 97) % 256) + 10)) = false := decide_eq_false c23
               clear c23
               by_cases c24 : x4_5 = 0
               ·rw [if_pos c24] at H
                exact absurd H (by simp)
               ·rw [if_neg c24] at H
                have c24b0 : (x4_5 == 0) = false := beq_eq_false_iff_ne.mpr c24
                have c24b1 : (x4_5 != 0) = true := bne_iff_ne.mpr c24
                by_cases c25 : x6_3 > (IntKind.u64.wrap (Int.tdiv (18446744073709551615 - ((((bt x5_5 x7_3) - 97) % 256) + 10)) x4_5))
                ·rw [if_pos c25] at H
                 have c25b0 : decide ((IntKind.u64.wrap (Int.tdiv (18446744073709551615 - ((((bt x5_5 x7_3) - 97) % 256) + 10)) x4_5)) < x6_3) = true := decide_eq_true c25
                 clear c25
                 simp only [Option.some.injEq, Prod.mk.injEq] at H
                 obtain ⟨rfl, rfl⟩ := H
                 go_wp2
                 go_ret2
                 exact ⟨by first | rfl | (simp; done) | (simp [*]; done), by repeat (first | exact Drawn0.refl _ | apply Drawn0.step)⟩
                ·rw [if_neg c25] at H
                 have c25b0 : decide ((IntKind.u64.wrap (Int.tdiv (18446744073709551615 - ((((bt x5_5 x7_3) - 97) % 256) + 10)) x4_5)) < x6_3) = false := decide_eq_false c25
                 clear c25
                 have H' := Aside0.mk H
                 clear H
                 go_wp2
                 go_roundg kj19
                 case measure => have := HJ1.out; have := HJ5.out; have := HK3.out; have := HJ17.out; have := HJ19.out; omega
                 case rel => exact ⟨(IntKind.u64.wrap ((IntKind.u64.wrap (x6_3 * x4_5)) + ((((bt x5_5 x7_3) - 97) % 256) + 10))), (wrap64 (x7_3 + 1)), (by first | rfl | (simp; done) | (simp [*]; done)), (by first | rfl | (simp; done) | (simp [*]; done)), H', ⟨by have := HJ1.out; have := HJ5.out; have := HK3.out; have := HJ17.out; have := HJ19.out; omega⟩, by repeat (first | exact Drawn0.refl _ | apply Drawn0.step)⟩
             ·replace c22 := Bool.eq_false_iff.mpr c22
              subst c22
              have H1 : (if x9_17 ≥ x4_5 then (some (0, false)) else (if x4_5 = 0 then (none) else (if x6_3 > (IntKind.u64.wrap (Int.tdiv (IntKind.u64.wrap (18446744073709551615 - x9_17)) x4_5)) then (some (0, false)) else (fairleadref09_Number.l0 kj19 x4_5 x5_5 (IntKind.u64.wrap ((IntKind.u64.wrap (x6_3 * x4_5)) + x9_17)) (wrap64 (x7_3 + 1)))))) = some (r1, r2) := by rw [if_neg (show ¬ (false = true) by decide)] at H; exact H
              clear H
              have H := H1
              clear H1
              by_cases c26 : x9_17 ≥ x4_5
              ·rw [if_pos c26] at H
               have c26b0 : decide (x4_5 ≤ x9_17) = true := decide_eq_true c26
               clear c26
               simp only [Option.some.injEq, Prod.mk.injEq] at H
               obtain ⟨rfl, rfl⟩ := H
               go_wp2
               go_ret2
               exact ⟨by first | rfl | (simp; done) | (simp [*]; done), by repeat (first | exact Drawn0.refl _ | apply Drawn0.step)⟩
              ·rw [if_neg c26] at H
               have c26b0 : decide (x4_5 ≤ x9_17) = false := decide_eq_false c26
               clear c26
               by_cases c27 : x4_5 = 0
               ·rw [if_pos c27] at H
                exact absurd H (by simp)
               ·rw [if_neg c27] at H
                have c27b0 : (x4_5 == 0) = false := beq_eq_false_iff_ne.mpr c27
                have c27b1 : (x4_5 != 0) = true := bne_iff_ne.mpr c27
                by_cases c28 : x6_3 > (IntKind.u64.wrap (Int.tdiv (IntKind.u64.wrap (18446744073709551615 - x9_17)) x4_5))
                ·rw [if_pos c28] at H
                 have c28b0 : decide ((IntKind.u64.wrap (Int.tdiv (IntKind.u64.wrap (18446744073709551615 - x9_17)) x4_5)) < x6_3) = true := decide_eq_true c28
                 clear c28
                 simp only [Option.some.injEq, Prod.mk.injEq] at H
                 obtain ⟨rfl, rfl⟩ := H
                 go_wp2
                 go_ret2
                 exact ⟨by first | rfl | (simp; done) | (simp [*]; done), by repeat (first | exact Drawn0.refl _ | apply Drawn0.step)⟩
                ·rw [if_neg c28] at H
                 have c28b0 : decide ((IntKind.u64.wrap (Int.tdiv (IntKind.u64.wrap (18446744073709551615 - x9_17)) x4_5)) < x6_3) = false := decide_eq_false c28
                 clear c28
                 have H' := Aside0.mk H
                 clear H
                 go_wp2
                 go_roundg kj19
                 case measure => have := HJ1.out; have := HJ5.out; have := HK3.out; have := HJ17.out; have := HJ19.out; omega
                 case rel => exact ⟨(IntKind.u64.wrap ((IntKind.u64.wrap (x6_3 * x4_5)) + x9_17)), (wrap64 (x7_3 + 1)), (by first | rfl | (simp; done) | (simp [*]; done)), (by first | rfl | (simp; done) | (simp [*]; done)), H', ⟨by have := HJ1.out; have := HJ5.out; have := HK3.out; have := HJ17.out; have := HJ19.out; omega⟩, by repeat (first | exact Drawn0.refl _ | apply Drawn0.step)⟩
        ·rw [if_neg c15] at H
         exact absurd H (by simp)
       ·rw [if_neg c14] at H
        have c14b0 : decide (x7_3 < (x5_5.size : Int)) = false := decide_eq_false c14
        clear c14
        simp only [Option.some.injEq, Prod.mk.injEq] at H
        obtain ⟨rfl, rfl⟩ := H
        go_wp2
        go_ret2
        exact ⟨by first | rfl | (simp; done) | (simp [*]; done), by repeat (first | exact Drawn0.refl _ | apply Drawn0.step)⟩
end Go.Proofs.Ytfahchgglapglaa.M
