-- Laid by a program (wip/tools/myprint.py) out of the loaded program's own print: for each Go function a Lean function and the proof of its contract.
import Derived.Test.YtcomfhfednieoaaMx0
import Derived.Test.YtcomfhfednieoaaMx2
import Derived.Test.YtcomfhfednieoaaMx3
import Derived.Test.YtcomfhfednieoaaMx5
import Derived.Test.YtcomfhfednieoaaMx7
import Derived.Test.YtcomfhfednieoaaMx8
import Derived.Test.YtcomfhfednieoaaMx10
namespace Go.Proofs.Ytcomfhfednieoaa.M
open Go.RowKit Go.Proofs.YtcomfhfednieoaaW.PrintWords Go.Proofs.YtcomfhfednieoaaW.PrintLast Go.Proofs.YtcomfhfednieoaaW.PrintMore
attribute [local go_sem] max2_int min2_int max_two min_two max_three min_three max_four min_four   -- for this text's walks alone
set_option linter.unusedVariables false
set_option linter.unusedSimpArgs false

/-! ### fairleadlaw02_PackStays: function 7 -/
-- HAND rounds=False making=True
theorem pack_stay_num (L : List Int) (size : Int) : pack_Reader_Num.f L 1 size = some (0, L, 1) := by
  unfold pack_Reader_Num.f pack_rnum
  split
  · rfl
  · unfold pack_taken pack_left
    rw [if_neg (fun h => absurd h.1 (show ¬ ((1 : Int) = 0) by decide)), if_neg (show ¬ ((1 : Int) = 0) by decide)]
    rfl
theorem pack_stay_text (L : List Int) : pack_Reader_Text.f L 1 = some ((⟨#[]⟩ : ByteArray), L, 1) := by
  have e := Option.some.inj (pack_stay_num L 2)
  unfold pack_Reader_Text.f pack_rtext
  rw [e, if_pos (by simp [wrap64])]
  unfold pack_taken pack_left
  rw [if_neg (fun h => absurd h.1 (show ¬ ((1 : Int) = 0) by decide)), if_neg (show ¬ ((1 : Int) = 0) by decide), if_neg (show ¬ ((1 : Int) = 0) by decide)]
  rfl
def fairleadlaw02_PackStays.f (a0 : Int) (l1 : List Int) (l2 : List Int) : Option (Bool) := fairleadlaw02_awake.f
set_option maxHeartbeats 8000000 in
set_option maxRecDepth 100000 in
theorem fairleadlaw02_PackStays.calls (a0 : Int) (A1 : Option Addr) (c1 : Nat) (l1 : List Int) (A2 : Option Addr) (c2 : Nat) (l2 : List Int) (r : Bool) (w : World) (hr1 : Kd.C (Kd.int .u8) w A1 l1.length l1) (hc1 : l1.length ≤ c1) (hr2 : Kd.C (Kd.int .i64) w A2 l2.length l2) (hc2 : l2.length ≤ c2) (h : fairleadlaw02_PackStays.f a0 l1 l2 = some r) :
    Calls Try.prog 7 #[.int .u64 a0, .slice A1 l1.length c1, .slice A2 l2.length c2] w fun e w' => e = .returned (.bool r) ∧ Below w.heap.size w w' := by
  have H := Aside0.mk (show fairleadlaw02_awake.f = some r from h)
  have HR1 := Aside0.mk hr1
  have HC1 := Aside0.mk hc1
  have HR2 := Aside0.mk hr2
  have hmx := hr2.2.1
  clear hr1 hc1 hr2 hc2 h
  by_cases e1 : (l1.length : Int) > 5000
  · have b1 : decide (5000 < (l1.length : Int)) = true := decide_eq_true e1
    have b2 : decide (5000 < l1.length) = true := decide_eq_true (by omega)
    clear e1
    go_enter Try.func7, Try.ntmps7
    go_wp2_with (first | (go_at_call 9; (refine (fairleadlaw02_awake.calls r _ H.out).mono ?_); rintro e w1 ⟨rfl, hB1⟩; have HB1 := Aside0.mk hB1; clear hB1))
    (repeat (go_step3; (try go_wp2)))
    go_ret
    exact ⟨rfl, HB1.out⟩
  · have b1 : decide (5000 < (l1.length : Int)) = false := decide_eq_false e1
    have b2 : decide (5000 < l1.length) = false := decide_eq_false (by omega)
    have E1 := Aside0.mk e1
    clear e1
    by_cases e2 : (l2.length : Int) > 100
    · have b3 : decide (100 < (l2.length : Int)) = true := decide_eq_true e2
      have b4 : decide (100 < l2.length) = true := decide_eq_true (by omega)
      clear e2
      go_enter Try.func7, Try.ntmps7
      go_wp2_with (first | (go_at_call 9; (refine (fairleadlaw02_awake.calls r _ H.out).mono ?_); rintro e w1 ⟨rfl, hB1⟩; have HB1 := Aside0.mk hB1; clear hB1))
      (repeat (go_step3; (try go_wp2)))
      go_ret
      exact ⟨rfl, HB1.out⟩
    · have b3 : decide (100 < (l2.length : Int)) = false := decide_eq_false e2
      have b4 : decide (100 < l2.length) = false := decide_eq_false (by omega)
      clear e2
      have n1 : pack_num ([], 0) a0 9 = ([], 1) := by unfold pack_num; rw [if_pos (by omega)]; rfl
      have n2 : pack_num ([], 1) 1 1 = ([1], 1) := by decide
      have n3 : pack_Read.f l1 = some (l1, 0) := by unfold pack_Read.f; rw [if_pos (by have := E1.out; omega)]
      have n4 : pack_Reader_Num.f l1 0 0 = some (0, l1, 1) := by unfold pack_Reader_Num.f pack_rnum; rw [if_pos (by omega)]; rfl
      have N1 := Aside0.mk n1
      have N2 := Aside0.mk n2
      have N3 := Aside0.mk n3
      have N4 := Aside0.mk n4
      clear n1 n2 n3 n4
      cases r
      all_goals
        go_enter Try.func7, Try.ntmps7
        go_wp2_with (first | (go_at_call 9; (refine (fairleadlaw02_awake.calls _ _ H.out).mono ?_); rintro e w1 ⟨rfl, hB1⟩; have HM := Aside0.mk (Mine.IsW.new 46 5 (w0 := w) (w := w1) (B := w.heap.size) hB1.size); have HBB := Aside0.mk (below_alloc hB1 (.cells #[.slice none 0 0, .int .i64 0] 46)); have HB1 := Aside0.mk hB1; clear hB1) | (go_at_call 20; (refine (pkw_Num.calls w.heap.size _ [] 0 a0 9 _ HM.out HBB.out.size (by simp)).mono ?_); rintro e w2 ⟨rfl, hM2, hB2⟩; rw [N1.out] at hM2; have hB2 := HBB.out.trans hB2; clear HM HBB; have HM2 := Aside0.mk hM2; have HBB2 := Aside0.mk hB2; clear hM2 hB2) | (go_at_call 20; (refine (pkw_Num.calls w.heap.size _ [] 1 1 1 _ HM2.out HBB2.out.size (by simp)).mono ?_); rintro e w3 ⟨rfl, hM3, hB3⟩; rw [N2.out] at hM3; have hB3 := HBB2.out.trans hB3; clear HM2 HBB2; have HM3 := Aside0.mk hM3; have HBB3 := Aside0.mk hB3; clear hM3 hB3) | (go_at_call 21; (refine (pkw_Bytes.calls w.heap.size _ [1] 1 _ HM3.out (by simp)).mono ?_); rintro e w4 ⟨v4, rfl, hR4, hB4⟩; rw [if_neg (by decide)] at hR4; obtain ⟨A4, cp4, ev4⟩ := Kd.R_slice hR4; subst ev4; have hB4 := HBB3.out.trans (hB4.mono HBB3.out.size); clear HM3 HBB3 hR4; have HBB4 := Aside0.mk hB4; clear hB4) | (go_at_call 14; (refine (pack_Read.calls A1 c1 l1 l1 0 w _ HBB4.out (Kd.C_below HR1.out HBB4.out) HC1.out N3.out).mono ?_); rintro e w5 ⟨g5, rfl, hI5, hB5, _⟩; clear HBB4; have HI5 := Aside0.mk hI5; have HBB5 := Aside0.mk hB5; clear hI5 hB5) | (go_at_call 17; (refine (pack_Reader_Num.calls g5 l1 0 0 0 l1 1 w _ HI5.out HBB5.out N4.out).mono ?_); rintro e w6 ⟨rfl, hI6, hB6, _⟩; clear HI5 HBB5; have HI6 := Aside0.mk hI6; have HBB6 := Aside0.mk hB6; clear hI6 hB6))
        (repeat (go_step3; (try go_wp2_with (first | (go_at_call 20; (refine (pkw_Num.calls w.heap.size _ [] 0 a0 9 _ HM.out HBB.out.size (by simp)).mono ?_); rintro e w2 ⟨rfl, hM2, hB2⟩; rw [N1.out] at hM2; have hB2 := HBB.out.trans hB2; clear HM HBB; have HM2 := Aside0.mk hM2; have HBB2 := Aside0.mk hB2; clear hM2 hB2) | (go_at_call 20; (refine (pkw_Num.calls w.heap.size _ [] 1 1 1 _ HM2.out HBB2.out.size (by simp)).mono ?_); rintro e w3 ⟨rfl, hM3, hB3⟩; rw [N2.out] at hM3; have hB3 := HBB2.out.trans hB3; clear HM2 HBB2; have HM3 := Aside0.mk hM3; have HBB3 := Aside0.mk hB3; clear hM3 hB3) | (go_at_call 21; (refine (pkw_Bytes.calls w.heap.size _ [1] 1 _ HM3.out (by simp)).mono ?_); rintro e w4 ⟨v4, rfl, hR4, hB4⟩; rw [if_neg (by decide)] at hR4; obtain ⟨A4, cp4, ev4⟩ := Kd.R_slice hR4; subst ev4; have hB4 := HBB3.out.trans (hB4.mono HBB3.out.size); clear HM3 HBB3 hR4; have HBB4 := Aside0.mk hB4; clear hB4) | (go_at_call 14; (refine (pack_Read.calls A1 c1 l1 l1 0 w _ HBB4.out (Kd.C_below HR1.out HBB4.out) HC1.out N3.out).mono ?_); rintro e w5 ⟨g5, rfl, hI5, hB5, _⟩; clear HBB4; have HI5 := Aside0.mk hI5; have HBB5 := Aside0.mk hB5; clear hI5 hB5) | (go_at_call 17; (refine (pack_Reader_Num.calls g5 l1 0 0 0 l1 1 w _ HI5.out HBB5.out N4.out).mono ?_); rintro e w6 ⟨rfl, hI6, hB6, _⟩; clear HI5 HBB5; have HI6 := Aside0.mk hI6; have HBB6 := Aside0.mk hB6; clear hI6 hB6)))))
        go_loopg [13] (l2.length + 1) (fun kq v13 w' => ∃ (i : Int), v13 = .int .i64 i ∧ 0 ≤ i ∧ i ≤ (l2.length : Int) ∧ l2.length - i.toNat < kq ∧ Aside0 (IsS52 w w' g5 l1 1) ∧ Aside0 (Below w.heap.size w w'))
        case atStart => exact ⟨0, rfl, Int.le_refl _, by omega, by simp, HI6, HBB6⟩
        case round =>
          clear HI6 HBB6
          obtain ⟨i, rfl, hi0, hil, hik, HI, HB⟩ := hrel
          obtain ⟨k1, rfl⟩ : ∃ k1, gk = k1 + 1 := ⟨gk - 1, by omega⟩
          by_cases hi : i < (l2.length : Int)
          · have x1 : decide (i < (l2.length : Int)) = true := decide_eq_true hi
            have z1 : IntKind.i64.wrap (i + 1) = i + 1 := by rw [i64_w]; simp only [wrap64, IntKind.wrap]; (try simp [IntKind.bits, IntKind.signed]); omega
            obtain ⟨ad, e0, x0⟩ := Kd.at_int (Kd.C_below HR2.out HB.out) i hi0 hi
            have p1 := eq_true hi0
            have q1 := eq_true hi
            cases e0
            go_wp2_with (first | (go_at_call 17; (refine (pack_Reader_Num.calls g5 l1 1 (rd l2 i) 0 l1 1 w _ HI.out HB.out (pack_stay_num l1 _)).mono ?_); rintro e w7 ⟨rfl, hI7, hB7, _⟩; clear HI HB; have HI7 := Aside0.mk hI7; have HB7 := Aside0.mk hB7; clear hI7 hB7) | (go_at_call 15; (refine (pack_Reader_Text.calls g5 l1 1 (⟨#[]⟩ : ByteArray) l1 1 w _ HI7.out HB7.out (pack_stay_text l1)).mono ?_); rintro e w8 ⟨rfl, hI8, hB8, _⟩; clear HI7 HB7; have HI8 := Aside0.mk hI8; have HB8 := Aside0.mk hB8; clear hI8 hB8))
            (repeat (go_step3; (try go_wp2_with (first | (go_at_call 15; (refine (pack_Reader_Text.calls g5 l1 1 (⟨#[]⟩ : ByteArray) l1 1 w _ HI7.out HB7.out (pack_stay_text l1)).mono ?_); rintro e w8 ⟨rfl, hI8, hB8, _⟩; clear HI7 HB7; have HI8 := Aside0.mk hI8; have HB8 := Aside0.mk hB8; clear hI8 hB8)))))
            go_roundg k1
            case measure => omega
            case rel => exact ⟨i + 1, by first | rfl | (rw [z1]), by omega, by omega, by omega, HI8, HB8⟩
          · have x1 : decide (i < (l2.length : Int)) = false := decide_eq_false hi
            go_wp2_with (first | (go_at_call 19; (refine (pack_Reader_End.calls g5 l1 1 1 l1 1 w _ HI.out HB.out rfl).mono ?_); rintro e w9 ⟨rfl, hI9, hB9, _⟩; clear HB; have HB := Aside0.mk hB9; clear hI9 hB9))
            (repeat (go_step3; (try go_wp2_with (first | (go_at_call 19; (refine (pack_Reader_End.calls g5 l1 1 1 l1 1 w _ HI.out HB.out rfl).mono ?_); rintro e w9 ⟨rfl, hI9, hB9, _⟩; clear HB; have HB := Aside0.mk hB9; clear hI9 hB9)))))
            go_ret
            exact ⟨rfl, HB.out⟩
/-- What is to be shown of fairleadlaw02_PackStays, without Go and memory. -/
def fairleadlaw02_PackStays.Pure : Prop := ∀ (a0 : Int) (l1 : List Int) (l2 : List Int), (0 ≤ a0 ∧ a0 ≤ 18446744073709551615) → (l1.length ≤ 9223372036854775807 ∧ ∀ x ∈ l1, 0 ≤ x ∧ x ≤ 255) → (l2.length ≤ 9223372036854775807 ∧ ∀ x ∈ l2, (-9223372036854775808) ≤ x ∧ x ≤ 9223372036854775807) → fairleadlaw02_PackStays.f a0 l1 l2 = some true

end Go.Proofs.Ytcomfhfednieoaa.M
