-- Laid by a program (wip/tools/myprint.py) out of the loaded program's own print: for each Go function a Lean function and the proof of its contract.
import Derived.Test.YtcomfhfednieoaaMx0
namespace Go.Proofs.Ytcomfhfednieoaa.M
open Go.RowKit Go.Proofs.YtcomfhfednieoaaW.PrintWords Go.Proofs.YtcomfhfednieoaaW.PrintLast Go.Proofs.YtcomfhfednieoaaW.PrintMore
attribute [local go_sem] max2_int min2_int max_two min_two max_three min_three max_four min_four   -- for this text's walks alone
set_option linter.unusedVariables false
set_option linter.unusedSimpArgs false

/-! ### fairleadref02_Take: function 18 -/
mutual
def fairleadref02_Take.j0 : Nat → List Int → Int → Bool → Option (Int × Int)
  | 0, _, _, _ => none
  | k + 1, x0, x1, x13 => if x13 = true then (some (0, 1)) else (if (x0.length : Int) < x1 then (some (0, 2)) else (fairleadref02_Take.l0 k x0 x1 0 0))
def fairleadref02_Take.l0 : Nat → List Int → Int → Int → Int → Option (Int × Int)
  | 0, _, _, _, _ => none
  | k + 1, x0, x1, x6, x7 => if x7 < x1 then (if 0 ≤ x7 then (if x7 < (x0.length : Int) then (fairleadref02_Take.l0 k x0 x1 (IntKind.u64.wrap ((IntKind.u64.wrap (x6 * 256)) + (IntKind.u64.wrap (rd x0 x7)))) (wrap64 (x7 + 1))) else (none)) else (none)) else (some (x6, 0))
end
def fairleadref02_Take.f (k : Nat) (l0 : List Int) (a1 : Int) : Option (Int × Int) := if a1 < 1 then (fairleadref02_Take.j0 k l0 a1 true) else (fairleadref02_Take.j0 k l0 a1 (decide (a1 > 8)))
theorem fairleadref02_Take.mono_l : ∀ k, (∀ y0 y1 y2, LeO (fairleadref02_Take.j0 k y0 y1 y2) (fairleadref02_Take.j0 (k + 1) y0 y1 y2)) ∧ (∀ y0 y1 y2 y3, LeO (fairleadref02_Take.l0 k y0 y1 y2 y3) (fairleadref02_Take.l0 (k + 1) y0 y1 y2 y3))
  | 0 => ⟨fun _ _ _ r h => by simp [fairleadref02_Take.j0] at h, fun _ _ _ _ r h => by simp [fairleadref02_Take.l0] at h⟩
  | k + 1 => by
    obtain ⟨ih0, ih1⟩ := fairleadref02_Take.mono_l k
    refine ⟨?_, ?_⟩
    · intro y0 y1 y2
      unfold fairleadref02_Take.j0
      repeat' first
      | (with_reducible exact ih0 _ _ _)
      | (with_reducible exact ih1 _ _ _ _)
      | (with_reducible exact LeO.refl _)
      | (with_reducible exact LeO.none _)
      | (with_reducible refine LeO.ite ?_ ?_)
      | (with_reducible refine LeO.bind ?_ (fun _ => ?_))
      | exact ih0 _ _ _
      | exact ih1 _ _ _ _
      | exact LeO.none _
      | refine LeO.ite ?_ ?_
      | refine LeO.bind ?_ (fun _ => ?_)
    · intro y0 y1 y2 y3
      unfold fairleadref02_Take.l0
      repeat' first
      | (with_reducible exact ih0 _ _ _)
      | (with_reducible exact ih1 _ _ _ _)
      | (with_reducible exact LeO.refl _)
      | (with_reducible exact LeO.none _)
      | (with_reducible refine LeO.ite ?_ ?_)
      | (with_reducible refine LeO.bind ?_ (fun _ => ?_))
      | exact ih0 _ _ _
      | exact ih1 _ _ _ _
      | exact LeO.none _
      | refine LeO.ite ?_ ?_
      | refine LeO.bind ?_ (fun _ => ?_)
theorem fairleadref02_Take.mono : ∀ a0 a1 k, LeO (fairleadref02_Take.f k a0 a1) (fairleadref02_Take.f (k + 1) a0 a1) := by
  intro a0 a1 k
  obtain ⟨ih0, ih1⟩ := fairleadref02_Take.mono_l k
  unfold fairleadref02_Take.f
  repeat' first
      | (with_reducible exact ih0 _ _ _)
      | (with_reducible exact ih1 _ _ _ _)
      | (with_reducible exact LeO.refl _)
      | (with_reducible exact LeO.none _)
      | (with_reducible refine LeO.ite ?_ ?_)
      | (with_reducible refine LeO.bind ?_ (fun _ => ?_))
      | exact ih0 _ _ _
      | exact ih1 _ _ _ _
      | exact LeO.none _
      | refine LeO.ite ?_ ?_
      | refine LeO.bind ?_ (fun _ => ?_)
set_option maxHeartbeats 8000000 in
set_option maxRecDepth 100000 in
theorem fairleadref02_Take.calls (k : Nat) (A0 : Option Addr) (c0 : Nat) (l0 : List Int) (a1 : Int) (r1 : Int) (r2 : Int) (w : World) (hr0 : Kd.C (Kd.int .u8) w A0 l0.length l0) (hc0 : l0.length ≤ c0) (h : fairleadref02_Take.f k l0 a1 = some (r1, r2)) :
    Calls Try.prog 18 #[.slice A0 l0.length c0, .int .i64 a1] w fun e w' => e = .returned (.tuple #[.int .u64 r1, .int .i64 r2]) ∧ Drawn0 w w' := by
  have HR0 := Aside0.mk hr0
  have HC0 := Aside0.mk hc0
  clear hr0 hc0
  have H : (if a1 < 1 then (fairleadref02_Take.j0 k l0 a1 true) else (fairleadref02_Take.j0 k l0 a1 (decide (a1 > 8)))) = some (r1, r2) := h
  clear h
  have HC3 := Aside0.mk H
  clear H
  go_enter Try.func18, Try.ntmps18
  go_upto_region 1 with (fail)
  go_cut [13] (fun v13 wc => ∃ (kq : Nat) (x13_2 : Bool), v13 = .bool x13_2 ∧ Aside0 (fairleadref02_Take.j0 kq l0 a1 x13_2 = some (r1, r2)) ∧ Aside0 (kq ≤ k) ∧ Drawn0 w wc)
  case first =>
    have H := HC3.out
    clear HC3
    by_cases c4 : a1 < 1
    · rw [if_pos c4] at H
      have c4b0 : decide (a1 < 1) = true := decide_eq_true c4
      clear c4
      (first | rw [c4b0] | (simp only [i64_w, i32_w]; rw [c4b0]) | skip)
      have H' := Aside0.mk H
      clear H
      go_wp2
      go_meet
      case rel => exact ⟨_, (true), (by first | rfl | (simp; done) | (simp [*]; done)), H', ⟨by first | omega | exact Nat.le_refl _⟩, by repeat (first | exact Drawn0.refl _ | apply Drawn0.step)⟩
    · rw [if_neg c4] at H
      have c4b0 : decide (a1 < 1) = false := decide_eq_false c4
      clear c4
      (first | rw [c4b0] | (simp only [i64_w, i32_w]; rw [c4b0]) | skip)
      have H' := Aside0.mk H
      clear H
      go_wp2
      go_meet
      case rel => exact ⟨_, (decide (a1 > 8)), (by first | rfl | (simp; done) | (simp [*]; done)), H', ⟨by first | omega | exact Nat.le_refl _⟩, by repeat (first | exact Drawn0.refl _ | apply Drawn0.step)⟩
  case rest =>
    clear HC3
    try clear c1
    try clear p2
    try clear c4
    try clear c4b0
    obtain ⟨kq, x13_2, rfl, HA, HJ2, ⟨mc2, rfl⟩⟩ := hcut
    cases kq with
    | zero => exact absurd HA.out (by simp [fairleadref02_Take.j0])
    | succ kj2 =>
      have H := HA.out
      clear HA
      simp only [fairleadref02_Take.j0] at H
      by_cases c5 : x13_2 = true
      · subst c5
        have H1 : (some (0, 1)) = some (r1, r2) := by rw [if_pos rfl] at H; exact H
        clear H
        have H := H1
        clear H1
        simp only [Option.some.injEq, Prod.mk.injEq] at H
        obtain ⟨rfl, rfl⟩ := H
        go_wp2
        go_ret2
        exact ⟨by first | rfl | (simp; done) | (simp [*]; done), by repeat (first | exact Drawn0.refl _ | apply Drawn0.step)⟩
      · replace c5 := Bool.eq_false_iff.mpr c5
        subst c5
        have H1 : (if (l0.length : Int) < a1 then (some (0, 2)) else (fairleadref02_Take.l0 kj2 l0 a1 0 0)) = some (r1, r2) := by rw [if_neg (show ¬ (false = true) by decide)] at H; exact H
        clear H
        have H := H1
        clear H1
        by_cases c6 : (l0.length : Int) < a1
        · rw [if_pos c6] at H
          have c6b0 : decide ((l0.length : Int) < a1) = true := decide_eq_true c6
          clear c6
          simp only [Option.some.injEq, Prod.mk.injEq] at H
          obtain ⟨rfl, rfl⟩ := H
          go_wp2
          go_ret2
          exact ⟨by first | rfl | (simp; done) | (simp [*]; done), by repeat (first | exact Drawn0.refl _ | apply Drawn0.step)⟩
        · rw [if_neg c6] at H
          have c6b0 : decide ((l0.length : Int) < a1) = false := decide_eq_false c6
          clear c6
          have H' := Aside0.mk H
          clear H
          go_wp2
          go_loopg [6, 7] kj2 (fun kq v6 v7 w' => ∃ (x6_2 : Int) (x7_2 : Int), v6 = .int .u64 x6_2 ∧ v7 = .int .i64 x7_2 ∧ Aside0 (fairleadref02_Take.l0 kq l0 a1 x6_2 x7_2 = some (r1, r2)) ∧ Aside0 (kq ≤ kj2) ∧ Drawn0 w w')
          case atStart => exact ⟨(0), (0), (by first | rfl | (simp; done) | (simp [*]; done)), (by first | rfl | (simp; done) | (simp [*]; done)), H', ⟨Nat.le_refl _⟩, by repeat (first | exact Drawn0.refl _ | apply Drawn0.step)⟩
          case round =>
            clear H'
            try clear c1
            try clear c2
            try clear p2
            try clear c4
            try clear c4b0
            try clear c5
            try clear c6
            try clear c6b0
            try clear p2
            obtain ⟨x6_2, x7_2, rfl, rfl, HA, HK2, ⟨m2, rfl⟩⟩ := hrel
            cases gk with
            | zero => exact absurd HA.out (by simp [fairleadref02_Take.l0])
            | succ k2 =>
              have H := HA.out
              clear HA
              simp only [fairleadref02_Take.l0] at H
              by_cases c7 : x7_2 < a1
              · rw [if_pos c7] at H
                have c7b0 : decide (x7_2 < a1) = true := decide_eq_true c7
                clear c7
                by_cases c8 : 0 ≤ x7_2
                · rw [if_pos c8] at H
                  have c8b0 : decide (0 ≤ x7_2) = true := decide_eq_true c8
                  clear c8
                  by_cases c9 : x7_2 < (l0.length : Int)
                  · rw [if_pos c9] at H
                    have c9b0 : decide (x7_2 < (l0.length : Int)) = true := decide_eq_true c9
                    clear c9
                    have H' := Aside0.mk H
                    clear H
                    have p150 : 0 ≤ (x7_2 : Int) := of_decide_eq_true (by first | (with_reducible assumption) | assumption)
                    have q150 : x7_2 < (l0.length : Int) := of_decide_eq_true (by first | (with_reducible assumption) | assumption)
                    obtain ⟨ad150, e150, hx150_0⟩ := Kd.at_int HR0.out x7_2 p150 q150
                    cases e150
                    replace p150 := eq_true p150
                    replace q150 := eq_true q150
                    go_wp2
                    go_roundg k2
                    case measure => have := HJ2.out; have := HK2.out; omega
                    case rel => exact ⟨(IntKind.u64.wrap ((IntKind.u64.wrap (x6_2 * 256)) + (IntKind.u64.wrap (rd l0 x7_2)))), (wrap64 (x7_2 + 1)), (by first | rfl | (simp; done) | (simp [*]; done)), (by first | rfl | (simp; done) | (simp [*]; done)), H', ⟨by have := HJ2.out; have := HK2.out; omega⟩, by repeat (first | exact Drawn0.refl _ | apply Drawn0.step)⟩
                  · rw [if_neg c9] at H
                    exact absurd H (by simp)
                · rw [if_neg c8] at H
                  exact absurd H (by simp)
              · rw [if_neg c7] at H
                have c7b0 : decide (x7_2 < a1) = false := decide_eq_false c7
                clear c7
                simp only [Option.some.injEq, Prod.mk.injEq] at H
                obtain ⟨rfl, rfl⟩ := H
                go_wp2
                go_ret2
                exact ⟨by first | rfl | (simp; done) | (simp [*]; done), by repeat (first | exact Drawn0.refl _ | apply Drawn0.step)⟩

/-! ### fairleadref02_TakeText: function 16 -/
def fairleadref02_TakeText.f (k : Nat) (l0 : List Int) : Option (ByteArray × Int × Int) := (fairleadref02_Take.f k l0 2).bind fun bt151 => (if bt151.2 = 0 then (if (IntKind.u64.wrap (wrap64 ((l0.length : Int) - 2))) < bt151.1 then (some ((⟨#[]⟩ : ByteArray), 0, 2)) else (if 2 ≤ (IntKind.u64.wrap (2 + bt151.1)) then (if (IntKind.u64.wrap (2 + bt151.1)) ≤ (l0.length : Int) then (some (strOfNums ((l0.take ((IntKind.u64.wrap (2 + bt151.1)) : Int).toNat).drop 2), wrap64 (2 + (wrap64 (bt151.1))), 0)) else (none)) else (none))) else (some ((⟨#[]⟩ : ByteArray), 0, 2)))
theorem fairleadref02_TakeText.mono : ∀ a0 k, LeO (fairleadref02_TakeText.f k a0) (fairleadref02_TakeText.f (k + 1) a0) := by
  intro a0 k
  unfold fairleadref02_TakeText.f
  repeat' first
      | (with_reducible exact fairleadref02_Take.mono _ _ _)
      | (with_reducible exact LeO.refl _)
      | (with_reducible exact LeO.none _)
      | (with_reducible refine LeO.ite ?_ ?_)
      | (with_reducible refine LeO.bind ?_ (fun _ => ?_))
      | exact fairleadref02_Take.mono _ _ _
      | exact LeO.none _
      | refine LeO.ite ?_ ?_
      | refine LeO.bind ?_ (fun _ => ?_)
set_option maxHeartbeats 8000000 in
set_option maxRecDepth 100000 in
theorem fairleadref02_TakeText.calls (k : Nat) (A0 : Option Addr) (c0 : Nat) (l0 : List Int) (r1 : ByteArray) (r2 : Int) (r3 : Int) (w : World) (hr0 : Kd.C (Kd.int .u8) w A0 l0.length l0) (hc0 : l0.length ≤ c0) (h : fairleadref02_TakeText.f k l0 = some (r1, r2, r3)) :
    Calls Try.prog 16 #[.slice A0 l0.length c0] w fun e w' => e = .returned (.tuple #[.string r1, .int .i64 r2, .int .i64 r3]) ∧ Drawn0 w w' := by
  have HR0 := Aside0.mk hr0
  have HC0 := Aside0.mk hc0
  clear hr0 hc0
  have H : ((fairleadref02_Take.f k l0 2).bind fun bt151 => (if bt151.2 = 0 then (if (IntKind.u64.wrap (wrap64 ((l0.length : Int) - 2))) < bt151.1 then (some ((⟨#[]⟩ : ByteArray), 0, 2)) else (if 2 ≤ (IntKind.u64.wrap (2 + bt151.1)) then (if (IntKind.u64.wrap (2 + bt151.1)) ≤ (l0.length : Int) then (some (strOfNums ((l0.take ((IntKind.u64.wrap (2 + bt151.1)) : Int).toNat).drop 2), wrap64 (2 + (wrap64 (bt151.1))), 0)) else (none)) else (none))) else (some ((⟨#[]⟩ : ByteArray), 0, 2)))) = some (r1, r2, r3) := h
  clear h
  replace H := Option.bind_eq_some_iff.mp H
  obtain ⟨⟨t151, t152⟩, A20, H⟩ := H
  replace H : (if t152 = 0 then (if (IntKind.u64.wrap (wrap64 ((l0.length : Int) - 2))) < t151 then (some ((⟨#[]⟩ : ByteArray), 0, 2)) else (if 2 ≤ (IntKind.u64.wrap (2 + t151)) then (if (IntKind.u64.wrap (2 + t151)) ≤ (l0.length : Int) then (some (strOfNums ((l0.take ((IntKind.u64.wrap (2 + t151)) : Int).toNat).drop 2), wrap64 (2 + (wrap64 (t151))), 0)) else (none)) else (none))) else (some ((⟨#[]⟩ : ByteArray), 0, 2))) = some (r1, r2, r3) := H
  have A2 := Aside0.mk A20
  clear A20
  by_cases c3 : t152 = 0
  · rw [if_pos c3] at H
    have c3b0 : (t152 == 0) = true := beq_iff_eq.mpr c3
    have c3b1 : (t152 != 0) = false := bne_eq_false_iff_eq.mpr c3
    clear c3
    by_cases c4 : (IntKind.u64.wrap (wrap64 ((l0.length : Int) - 2))) < t151
    · rw [if_pos c4] at H
      have c4b0 : decide ((IntKind.u64.wrap (wrap64 ((l0.length : Int) - 2))) < t151) = true := decide_eq_true c4
      clear c4
      simp only [Option.some.injEq, Prod.mk.injEq] at H
      obtain ⟨rfl, rfl, rfl⟩ := H
      go_enter Try.func16, Try.ntmps16
      go_wp2_with (first | ((with_reducible refine gate_callee (f := 18) rfl ?_); refine goesL_ (some 9) rfl rfl Try.func18 (by kernel_rfl) rfl #[.slice A0 l0.length c0, .int .i64 2] rfl (by (try simp only [List.map_toArray, List.map_cons, List.map_nil]); first | done | rfl | (simp only [List.length_drop, List.length_take]; rfl)) ?_; (with_reducible refine (fairleadref02_Take.calls k _ _ l0 2 t151 t152 _ ?side1 ?side2 A2.out).mono ?_); (case side1 => repeat (first | exact HR0.out | (with_reducible refine Kd.C_alloc ?_ _) | (with_reducible refine Kd.C_drewN ?_ _) | (with_reducible refine Kd.C_drew ?_))); (case side2 => exact HC0.out); rintro e w' ⟨rfl, ⟨nd, rfl⟩⟩; refine ⟨_, rfl, ?_⟩))
      go_ret3
      exact ⟨by first | rfl | (simp; done) | (simp [*]; done), by repeat (first | exact Drawn0.refl _ | apply Drawn0.step)⟩
    · rw [if_neg c4] at H
      have c4b0 : decide ((IntKind.u64.wrap (wrap64 ((l0.length : Int) - 2))) < t151) = false := decide_eq_false c4
      clear c4
      by_cases c5 : 2 ≤ (IntKind.u64.wrap (2 + t151))
      · rw [if_pos c5] at H
        have c5b0 := eq_true c5
        have c5b1 : decide (2 ≤ (IntKind.u64.wrap (2 + t151))) = true := decide_eq_true c5
        by_cases c6 : (IntKind.u64.wrap (2 + t151)) ≤ (l0.length : Int)
        · rw [if_pos c6] at H
          have c6b0 := eq_true c6
          have c6b1 : decide ((IntKind.u64.wrap (2 + t151)) ≤ (l0.length : Int)) = true := decide_eq_true c6
          simp only [Option.some.injEq, Prod.mk.injEq] at H
          obtain ⟨rfl, rfl, rfl⟩ := H
          go_enter Try.func16, Try.ntmps16
          have hlc_ : ((l0.take (IntKind.u64.wrap (2 + t151) : Int).toNat).drop (2 : Int).toNat).length = (IntKind.u64.wrap (2 + t151)).toNat - 2 := by rw [List.length_drop, List.length_take]; have h1_ := of_decide_eq_true (show decide (IntKind.u64.wrap (2 + t151) ≤ (l0.length : Int)) = true by assumption); have h2_ := of_decide_eq_true (show decide (2 ≤ IntKind.u64.wrap (2 + t151)) = true by assumption); omega
          go_wp2_with (first | ((with_reducible refine gate_callee (f := 18) rfl ?_); refine goesL_ (some 9) rfl rfl Try.func18 (by kernel_rfl) rfl #[.slice A0 l0.length c0, .int .i64 2] rfl (by (try simp only [List.map_toArray, List.map_cons, List.map_nil]); first | done | rfl | (simp only [List.length_drop, List.length_take]; rfl)) ?_; (with_reducible refine (fairleadref02_Take.calls k _ _ l0 2 t151 t152 _ ?side1 ?side2 A2.out).mono ?_); (case side1 => repeat (first | exact HR0.out | (with_reducible refine Kd.C_alloc ?_ _) | (with_reducible refine Kd.C_drewN ?_ _) | (with_reducible refine Kd.C_drew ?_))); (case side2 => exact HC0.out); rintro e w' ⟨rfl, ⟨nd, rfl⟩⟩; refine ⟨_, rfl, ?_⟩; obtain ⟨i07, hi07, _, hsz7, _⟩ := info_parts info5; obtain ⟨A7, hcut7, hA7, hC7⟩ := print_mid_of (P := Try.prog) (Value.int .u8) 0 25 5 .i64 .u64 Try.underlying25 hi07 hsz7 A0 c0 l0 2 (IntKind.u64.wrap (2 + t151)) (by omega) (by first | omega | exact of_decide_eq_true (by first | (with_reducible assumption) | assumption)) (of_decide_eq_true (by first | (with_reducible assumption) | assumption)) HC0.out; have HR153 := Aside0.mk (Kd.C_of_reads (h1 := fun _ => rfl) (hA7 _ (Kd.reads_of_C (Kd.C_drewN HR0.out nd)))); have HC153 := Aside0.mk hC7; clear hA7 hC7 hi07 hsz7; have hcv8 := Kd.C_string (P := Try.prog) (A := A7) (c := (c0 - 2)) Try.underlying25 Try.underlying5 Try.underlying9 HR153.out; rw [hlc_] at hcv8))
          go_ret3
          exact ⟨by first | rfl | (simp; done) | (simp [*]; done), by repeat (first | exact Drawn0.refl _ | apply Drawn0.step)⟩
        · rw [if_neg c6] at H
          exact absurd H (by simp)
      · rw [if_neg c5] at H
        exact absurd H (by simp)
  · rw [if_neg c3] at H
    have c3b0 : (t152 == 0) = false := beq_eq_false_iff_ne.mpr c3
    have c3b1 : (t152 != 0) = true := bne_iff_ne.mpr c3
    simp only [Option.some.injEq, Prod.mk.injEq] at H
    obtain ⟨rfl, rfl, rfl⟩ := H
    go_enter Try.func16, Try.ntmps16
    go_wp2_with (first | ((with_reducible refine gate_callee (f := 18) rfl ?_); refine goesL_ (some 9) rfl rfl Try.func18 (by kernel_rfl) rfl #[.slice A0 l0.length c0, .int .i64 2] rfl (by (try simp only [List.map_toArray, List.map_cons, List.map_nil]); first | done | rfl | (simp only [List.length_drop, List.length_take]; rfl)) ?_; (with_reducible refine (fairleadref02_Take.calls k _ _ l0 2 t151 t152 _ ?side1 ?side2 A2.out).mono ?_); (case side1 => repeat (first | exact HR0.out | (with_reducible refine Kd.C_alloc ?_ _) | (with_reducible refine Kd.C_drewN ?_ _) | (with_reducible refine Kd.C_drew ?_))); (case side2 => exact HC0.out); rintro e w' ⟨rfl, ⟨nd, rfl⟩⟩; refine ⟨_, rfl, ?_⟩))
    go_ret3
    exact ⟨by first | rfl | (simp; done) | (simp [*]; done), by repeat (first | exact Drawn0.refl _ | apply Drawn0.step)⟩

end Go.Proofs.Ytcomfhfednieoaa.M
