-- Laid by a program (wip/tools/myprint.py) out of the loaded program's own print: for each Go function a Lean function and the proof of its contract.
import Derived.Test.YtadglbmghldnfaaDMx0
import Derived.Test.YtadglbmghldnfaaDMx17
namespace Go.Proofs.Ytadglbmghldnfaa.M
open Go.RowKit Go.Proofs.YtadglbmghldnfaaW.PrintWords Go.Proofs.YtadglbmghldnfaaW.PrintLast Go.Proofs.YtadglbmghldnfaaW.PrintMore
attribute [local go_sem] max2_int min2_int max_two min_two max_three min_three max_four min_four   -- for this text's walks alone
set_option linter.unusedVariables false
set_option linter.unusedSimpArgs false
def fairleadref02_TakeText.f (k : Nat) (l0 : List Int) : Option (ByteArray × Int × Int) := (fairleadref02_Take.f k l0 2).bind fun bt432 => (if bt432.2 = 0 then (if (IntKind.u64.wrap (wrap64 ((l0.length : Int) - 2))) < bt432.1 then (some ((⟨#[]⟩ : ByteArray), 0, 2)) else (if 2 ≤ (IntKind.u64.wrap (2 + bt432.1)) then (if (IntKind.u64.wrap (2 + bt432.1)) ≤ (l0.length : Int) then (some (strOfNums ((l0.take ((IntKind.u64.wrap (2 + bt432.1)) : Int).toNat).drop 2), wrap64 (2 + (wrap64 (bt432.1))), 0)) else (none)) else (none))) else (some ((⟨#[]⟩ : ByteArray), 0, 2)))
set_option maxHeartbeats 8000000 in
set_option maxRecDepth 100000 in
theorem fairleadref02_TakeText.calls (k : Nat) (A0 : Option Addr) (c0 : Nat) (l0 : List Int) (r1 : ByteArray) (r2 : Int) (r3 : Int) (w : World) (hr0 : Kd.C (Kd.int .u8) w A0 l0.length l0) (hc0 : l0.length ≤ c0) (h : fairleadref02_TakeText.f k l0 = some (r1, r2, r3)) :
  Calls Try.prog 31 #[.slice A0 l0.length c0] w fun e w' => e = .returned (.tuple #[.string r1, .int .i64 r2, .int .i64 r3]) ∧ Drawn0 w w' := by
 have HR0 := Aside0.mk hr0
 have HC0 := Aside0.mk hc0
 clear hr0 hc0
 have H : ((fairleadref02_Take.f k l0 2).bind fun bt432 => (if bt432.2 = 0 then (if (IntKind.u64.wrap (wrap64 ((l0.length : Int) - 2))) < bt432.1 then (some ((⟨#[]⟩ : ByteArray), 0, 2)) else (if 2 ≤ (IntKind.u64.wrap (2 + bt432.1)) then (if (IntKind.u64.wrap (2 + bt432.1)) ≤ (l0.length : Int) then (some (strOfNums ((l0.take ((IntKind.u64.wrap (2 + bt432.1)) : Int).toNat).drop 2), wrap64 (2 + (wrap64 (bt432.1))), 0)) else (none)) else (none))) else (some ((⟨#[]⟩ : ByteArray), 0, 2)))) = some (r1, r2, r3) := h
 clear h
 replace H := Option.bind_eq_some_iff.mp H
 obtain ⟨⟨t432, t433⟩, A20, H⟩ := H
 replace H : (if t433 = 0 then (if (IntKind.u64.wrap (wrap64 ((l0.length : Int) - 2))) < t432 then (some ((⟨#[]⟩ : ByteArray), 0, 2)) else (if 2 ≤ (IntKind.u64.wrap (2 + t432)) then (if (IntKind.u64.wrap (2 + t432)) ≤ (l0.length : Int) then (some (strOfNums ((l0.take ((IntKind.u64.wrap (2 + t432)) : Int).toNat).drop 2), wrap64 (2 + (wrap64 (t432))), 0)) else (none)) else (none))) else (some ((⟨#[]⟩ : ByteArray), 0, 2))) = some (r1, r2, r3) := H
 have A2 := Aside0.mk A20
 clear A20
 by_cases c3 : t433 = 0
 ·rw [if_pos c3] at H
  have c3b0 : (t433 == 0) = true := beq_iff_eq.mpr c3
  have c3b1 : (t433 != 0) = false := bne_eq_false_iff_eq.mpr c3
  clear c3
  by_cases c4 : (IntKind.u64.wrap (wrap64 ((l0.length : Int) - 2))) < t432
  ·rw [if_pos c4] at H
   have c4b0 : decide ((IntKind.u64.wrap (wrap64 ((l0.length : Int) - 2))) < t432) = true := decide_eq_true c4
   clear c4
   simp only [Option.some.injEq, Prod.mk.injEq] at H
   obtain ⟨rfl, rfl, rfl⟩ := H
   go_enter Try.func31, Try.ntmps31
   go_wp2_with (first | ((with_reducible refine gate_callee (f := 29) rfl ?_); refine goesL_ (some 9) rfl rfl Try.func29 (by kernel_rfl) rfl #[.slice A0 l0.length c0, .int .i64 2] rfl (by (try simp only [List.map_toArray, List.map_cons, List.map_nil]); first | done | rfl | (simp only [List.length_drop, List.length_take]; rfl)) ?_; (with_reducible refine (fairleadref02_Take.calls k _ _ l0 2 t432 t433 _ ?side1 ?side2 A2.out).mono ?_); (case side1 => repeat (first | exact HR0.out | (with_reducible refine Kd.C_alloc ?_ _) | (with_reducible refine Kd.C_drewN ?_ _) | (with_reducible refine Kd.C_drew ?_))); (case side2 => exact HC0.out); rintro e w' ⟨rfl, ⟨nd, rfl⟩⟩; refine ⟨_, rfl, ?_⟩))
   go_ret3
   exact ⟨by first | rfl | (simp; done) | (simp [*]; done), by repeat (first | exact Drawn0.refl _ | apply Drawn0.step)⟩
  ·rw [if_neg c4] at H
   have c4b0 : decide ((IntKind.u64.wrap (wrap64 ((l0.length : Int) - 2))) < t432) = false := decide_eq_false c4
   clear c4
   by_cases c5 : 2 ≤ (IntKind.u64.wrap (2 + t432))
   ·rw [if_pos c5] at H
    have c5b0 := eq_true c5
    have c5b1 : decide (2 ≤ (IntKind.u64.wrap (2 + t432))) = true := decide_eq_true c5
    by_cases c6 : (IntKind.u64.wrap (2 + t432)) ≤ (l0.length : Int)
    ·rw [if_pos c6] at H
     have c6b0 := eq_true c6
     have c6b1 : decide ((IntKind.u64.wrap (2 + t432)) ≤ (l0.length : Int)) = true := decide_eq_true c6
     simp only [Option.some.injEq, Prod.mk.injEq] at H
     obtain ⟨rfl, rfl, rfl⟩ := H
     go_enter Try.func31, Try.ntmps31
     have hlc_ : ((l0.take (IntKind.u64.wrap (2 + t432) : Int).toNat).drop (2 : Int).toNat).length = (IntKind.u64.wrap (2 + t432)).toNat - 2 := by rw [List.length_drop, List.length_take]; have h1_ := of_decide_eq_true (show decide (IntKind.u64.wrap (2 + t432) ≤ (l0.length : Int)) = true by assumption); have h2_ := of_decide_eq_true (show decide (2 ≤ IntKind.u64.wrap (2 + t432)) = true by assumption); omega
     go_wp2_with (first | ((with_reducible refine gate_callee (f := 29) rfl ?_); refine goesL_ (some 9) rfl rfl Try.func29 (by kernel_rfl) rfl #[.slice A0 l0.length c0, .int .i64 2] rfl (by (try simp only [List.map_toArray, List.map_cons, List.map_nil]); first | done | rfl | (simp only [List.length_drop, List.length_take]; rfl)) ?_; (with_reducible refine (fairleadref02_Take.calls k _ _ l0 2 t432 t433 _ ?side1 ?side2 A2.out).mono ?_); (case side1 => repeat (first | exact HR0.out | (with_reducible refine Kd.C_alloc ?_ _) | (with_reducible refine Kd.C_drewN ?_ _) | (with_reducible refine Kd.C_drew ?_))); (case side2 => exact HC0.out); rintro e w' ⟨rfl, ⟨nd, rfl⟩⟩; refine ⟨_, rfl, ?_⟩; obtain ⟨i07, hi07, _, hsz7, _⟩ := info_parts info5; obtain ⟨A7, hcut7, hA7, hC7⟩ := print_mid_of (P := Try.prog) (Value.int .u8) 0 30 5 .i64 .u64 Try.underlying30 hi07 hsz7 A0 c0 l0 2 (IntKind.u64.wrap (2 + t432)) (by omega) (by first | omega | exact of_decide_eq_true (by first | (with_reducible assumption) | assumption)) (of_decide_eq_true (by first | (with_reducible assumption) | assumption)) HC0.out; have HR434 := Aside0.mk (Kd.C_of_reads (h1 := fun _ => rfl) (hA7 _ (Kd.reads_of_C (Kd.C_drewN HR0.out nd)))); have HC434 := Aside0.mk hC7; clear hA7 hC7 hi07 hsz7; have hcv8 := Kd.C_string (P := Try.prog) (A := A7) (c := (c0 - 2)) Try.underlying30 Try.underlying5 Try.underlying9 HR434.out; rw [hlc_] at hcv8))
     go_ret3
     exact ⟨by first | rfl | (simp; done) | (simp [*]; done), by repeat (first | exact Drawn0.refl _ | apply Drawn0.step)⟩
    ·rw [if_neg c6] at H
     exact absurd H (by simp)
   ·rw [if_neg c5] at H
    exact absurd H (by simp)
 ·rw [if_neg c3] at H
  have c3b0 : (t433 == 0) = false := beq_eq_false_iff_ne.mpr c3
  have c3b1 : (t433 != 0) = true := bne_iff_ne.mpr c3
  simp only [Option.some.injEq, Prod.mk.injEq] at H
  obtain ⟨rfl, rfl, rfl⟩ := H
  go_enter Try.func31, Try.ntmps31
  go_wp2_with (first | ((with_reducible refine gate_callee (f := 29) rfl ?_); refine goesL_ (some 9) rfl rfl Try.func29 (by kernel_rfl) rfl #[.slice A0 l0.length c0, .int .i64 2] rfl (by (try simp only [List.map_toArray, List.map_cons, List.map_nil]); first | done | rfl | (simp only [List.length_drop, List.length_take]; rfl)) ?_; (with_reducible refine (fairleadref02_Take.calls k _ _ l0 2 t432 t433 _ ?side1 ?side2 A2.out).mono ?_); (case side1 => repeat (first | exact HR0.out | (with_reducible refine Kd.C_alloc ?_ _) | (with_reducible refine Kd.C_drewN ?_ _) | (with_reducible refine Kd.C_drew ?_))); (case side2 => exact HC0.out); rintro e w' ⟨rfl, ⟨nd, rfl⟩⟩; refine ⟨_, rfl, ?_⟩))
  go_ret3
  exact ⟨by first | rfl | (simp; done) | (simp [*]; done), by repeat (first | exact Drawn0.refl _ | apply Drawn0.step)⟩
end Go.Proofs.Ytadglbmghldnfaa.M
