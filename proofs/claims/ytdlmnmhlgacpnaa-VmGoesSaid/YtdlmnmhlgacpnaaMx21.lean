-- Laid by a program (wip/tools/myprint.py) out of the loaded program's own print: for each Go function a Lean function and the proof of its contract.
import Derived.Test.YtdlmnmhlgacpnaaMx0
import Derived.Test.YtdlmnmhlgacpnaaMx3
import Derived.Test.YtdlmnmhlgacpnaaMx4
import Derived.Test.YtdlmnmhlgacpnaaMx5
import Derived.Test.YtdlmnmhlgacpnaaMx15
import Derived.Test.YtdlmnmhlgacpnaaMx20
namespace Go.Proofs.Ytdlmnmhlgacpnaa.M
open Go.RowKit Go.Proofs.YtdlmnmhlgacpnaaW.PrintWords Go.Proofs.YtdlmnmhlgacpnaaW.PrintLast Go.Proofs.YtdlmnmhlgacpnaaW.PrintMore
attribute [local go_sem] max2_int min2_int max_two min_two max_three min_three max_four min_four   -- for this text's walks alone
set_option linter.unusedVariables false
set_option linter.unusedSimpArgs false

/-! ### fairleadlaw06_VmGoes: function 8 -/
mutual
def fairleadlaw06_VmGoes.j0 : Nat → List (S37) → Bool → Int → Int → List Int → Bool → Option (Bool)
 | 0, _, _, _, _, _, _ => none
 | k + 1, x0, x5, x6, x7, x9, x81 => if x81 = true then (some false) else (fairleadlaw06_VmGoes.l0 k x0 x5 x6 x7 x9 1)
def fairleadlaw06_VmGoes.l0 : Nat → List (S37) → Bool → Int → Int → List Int → Int → Option (Bool)
 | 0, _, _, _, _, _, _ => none
 | k + 1, x0, x5, x6, x7, x9, x13 => if x13 < (x9.length : Int) then (if 0 ≤ (wrap64 (x13 - 1)) then (if (wrap64 (x13 - 1)) < (x9.length : Int) then (if (rd x9 (wrap64 (x13 - 1))) < 0 then (fairleadlaw06_VmGoes.j2 k x0 x5 x6 x7 x9 x13 true) else (fairleadlaw06_VmGoes.j2 k x0 x5 x6 x7 x9 x13 (decide ((rd x9 (wrap64 (x13 - 1))) ≥ (x0.length : Int))))) else (none)) else (none)) else (if 0 ≤ (wrap64 (x7 - 1)) then (if (wrap64 (x7 - 1)) < (x9.length : Int) then (if (rd x9 (wrap64 (x7 - 1))) < 0 then (some false) else (if (rd x9 (wrap64 (x7 - 1))) ≥ (x0.length : Int) then (some false) else (if 0 ≤ (rd x9 (wrap64 (x7 - 1))) then (if (rd x9 (wrap64 (x7 - 1))) < (x0.length : Int) then (if x5 = true then (if ((rd_T37 x0 (rd x9 (wrap64 (x7 - 1)))).f0) = 6 then (if x6 = ((rd_T37 x0 (rd x9 (wrap64 (x7 - 1)))).f3) then (some true) else (if ((rd_T37 x0 (rd x9 (wrap64 (x7 - 1)))).f0) = 22 then (some true) else (if ((rd_T37 x0 (rd x9 (wrap64 (x7 - 1)))).f0) = 60 then (some (x6 == 0)) else (some false)))) else (if ((rd_T37 x0 (rd x9 (wrap64 (x7 - 1)))).f0) = 22 then (some true) else (if ((rd_T37 x0 (rd x9 (wrap64 (x7 - 1)))).f0) = 60 then (some (x6 == 0)) else (some false)))) else (some false)) else (none)) else (none)))) else (none)) else (none))
def fairleadlaw06_VmGoes.j2 : Nat → List (S37) → Bool → Int → Int → List Int → Int → Bool → Option (Bool)
 | 0, _, _, _, _, _, _, _ => none
 | k + 1, x0, x5, x6, x7, x9, x13, x103 => if x103 = true then (some false) else (if 0 ≤ (wrap64 (x13 - 1)) then (if (wrap64 (x13 - 1)) < (x9.length : Int) then ((check_Next.f k x0 (rd x9 (wrap64 (x13 - 1)))).bind fun t449 => (fairleadlaw06_VmGoes.l1 k x0 x5 x6 x7 x9 x13 t449 false 0)) else (none)) else (none))
def fairleadlaw06_VmGoes.l1 : Nat → List (S37) → Bool → Int → Int → List Int → Int → List Int → Bool → Int → Option (Bool)
 | 0, _, _, _, _, _, _, _, _, _ => none
 | k + 1, x0, x5, x6, x7, x9, x13, x14, x15, x16 => if x16 < (x14.length : Int) then (if x15 = true then (fairleadlaw06_VmGoes.l1 k x0 x5 x6 x7 x9 x13 x14 true (wrap64 (x16 + 1))) else (if 0 ≤ x16 then (if 0 ≤ x13 then (if x13 < (x9.length : Int) then (fairleadlaw06_VmGoes.l1 k x0 x5 x6 x7 x9 x13 x14 ((rd x14 x16) == (rd x9 x13)) (wrap64 (x16 + 1))) else (none)) else (none)) else (none))) else (if x15 = true then (if 0 ≤ x13 then (if x13 < (x9.length : Int) then (if 0 ≤ (wrap64 (x13 - 1)) then (if (wrap64 (x13 - 1)) < (x9.length : Int) then (if (rd x9 x13) ≤ (rd x9 (wrap64 (x13 - 1))) then (some false) else (fairleadlaw06_VmGoes.l0 k x0 x5 x6 x7 x9 (wrap64 (x13 + 1)))) else (none)) else (none)) else (none)) else (none)) else (some false))
end
def fairleadlaw06_VmGoes.f (k : Nat) (l0 : List (S37)) (a1_0 : Int) (a1_1 : Int) (a1_2 : Int) (a1_3 : Int) (a1_4 : Int) (a1_5 : Int) (a1_6 : Int) (a1_7 : Int) (a1_8 : Int) : Option (Bool) := (fairleadlaw06_awake.f k).bind fun t432 => ((vm_Run.f k l0 a1_0 a1_1 a1_2 a1_3 a1_4 a1_5 a1_6 a1_7 a1_8).bind fun bt433 => ((vm_Trace.f k l0 a1_0 a1_1 a1_2 a1_3 a1_4 a1_5 a1_6 a1_7 a1_8).bind fun bt436 => (if bt433.2.2 = bt436.2 then (if bt433.2.2 = 0 then (if (bt436.1.length : Int) = bt433.2.1 then (if bt433.2.1 < 1 then (fairleadlaw06_VmGoes.j0 k l0 t432 bt433.1 bt433.2.1 bt436.1 true) else (if bt433.2.1 > (l0.length : Int) then (fairleadlaw06_VmGoes.j0 k l0 t432 bt433.1 bt433.2.1 bt436.1 true) else (if 0 < (bt436.1.length : Int) then (fairleadlaw06_VmGoes.j0 k l0 t432 bt433.1 bt433.2.1 bt436.1 ((rd bt436.1 0) != 0)) else (none)))) else (fairleadlaw06_VmGoes.j0 k l0 t432 bt433.1 bt433.2.1 bt436.1 true)) else ((check_Check.f k l0).bind fun bt440 => (if t432 = true then (if bt433.1 = 0 then (if bt433.2.1 = 0 then (if (bt436.1.length : Int) = 0 then (some (bt440.1 == bt433.2.2)) else (some false)) else (some false)) else (some false)) else (some false)))) else (some false))))
theorem fairleadlaw06_VmGoes.mono_l : ∀ k, (∀ y0 y1 y2 y3 y4 y5, LeO (fairleadlaw06_VmGoes.j0 k y0 y1 y2 y3 y4 y5) (fairleadlaw06_VmGoes.j0 (k + 1) y0 y1 y2 y3 y4 y5)) ∧ (∀ y0 y1 y2 y3 y4 y5, LeO (fairleadlaw06_VmGoes.l0 k y0 y1 y2 y3 y4 y5) (fairleadlaw06_VmGoes.l0 (k + 1) y0 y1 y2 y3 y4 y5)) ∧ (∀ y0 y1 y2 y3 y4 y5 y6, LeO (fairleadlaw06_VmGoes.j2 k y0 y1 y2 y3 y4 y5 y6) (fairleadlaw06_VmGoes.j2 (k + 1) y0 y1 y2 y3 y4 y5 y6)) ∧ (∀ y0 y1 y2 y3 y4 y5 y6 y7 y8, LeO (fairleadlaw06_VmGoes.l1 k y0 y1 y2 y3 y4 y5 y6 y7 y8) (fairleadlaw06_VmGoes.l1 (k + 1) y0 y1 y2 y3 y4 y5 y6 y7 y8))
 | 0 => ⟨fun _ _ _ _ _ _ r h => by simp [fairleadlaw06_VmGoes.j0] at h, fun _ _ _ _ _ _ r h => by simp [fairleadlaw06_VmGoes.l0] at h, fun _ _ _ _ _ _ _ r h => by simp [fairleadlaw06_VmGoes.j2] at h, fun _ _ _ _ _ _ _ _ _ r h => by simp [fairleadlaw06_VmGoes.l1] at h⟩
 | k + 1 => by
  obtain ⟨ih0, ih1, ih2, ih3⟩ := fairleadlaw06_VmGoes.mono_l k
  refine ⟨?_, ?_, ?_, ?_⟩
  ·intro y0 y1 y2 y3 y4 y5
   unfold fairleadlaw06_VmGoes.j0
   repeat' first
   | (with_reducible exact ih0 _ _ _ _ _ _)
   | (with_reducible exact ih1 _ _ _ _ _ _)
   | (with_reducible exact ih2 _ _ _ _ _ _ _)
   | (with_reducible exact ih3 _ _ _ _ _ _ _ _ _)
   | (with_reducible exact check_Check.mono _ _)
   | (with_reducible exact check_Next.mono _ _ _)
   | (with_reducible exact fairleadlaw06_awake.mono _)
   | (with_reducible exact vm_Run.mono _ _ _ _ _ _ _ _ _ _ _)
   | (with_reducible exact vm_Trace.mono _ _ _ _ _ _ _ _ _ _ _)
   | (with_reducible exact LeO.refl _)
   | (with_reducible exact LeO.none _)
   | (with_reducible refine LeO.ite ?_ ?_)
   | (with_reducible refine LeO.bind ?_ (fun _ => ?_))
   | exact ih0 _ _ _ _ _ _
   | exact ih1 _ _ _ _ _ _
   | exact ih2 _ _ _ _ _ _ _
   | exact ih3 _ _ _ _ _ _ _ _ _
   | exact check_Check.mono _ _
   | exact check_Next.mono _ _ _
   | exact fairleadlaw06_awake.mono _
   | exact vm_Run.mono _ _ _ _ _ _ _ _ _ _ _
   | exact vm_Trace.mono _ _ _ _ _ _ _ _ _ _ _
   | exact LeO.none _
   | refine LeO.ite ?_ ?_
   | refine LeO.bind ?_ (fun _ => ?_)
  ·intro y0 y1 y2 y3 y4 y5
   unfold fairleadlaw06_VmGoes.l0
   repeat' first
   | (with_reducible exact ih0 _ _ _ _ _ _)
   | (with_reducible exact ih1 _ _ _ _ _ _)
   | (with_reducible exact ih2 _ _ _ _ _ _ _)
   | (with_reducible exact ih3 _ _ _ _ _ _ _ _ _)
   | (with_reducible exact check_Check.mono _ _)
   | (with_reducible exact check_Next.mono _ _ _)
   | (with_reducible exact fairleadlaw06_awake.mono _)
   | (with_reducible exact vm_Run.mono _ _ _ _ _ _ _ _ _ _ _)
   | (with_reducible exact vm_Trace.mono _ _ _ _ _ _ _ _ _ _ _)
   | (with_reducible exact LeO.refl _)
   | (with_reducible exact LeO.none _)
   | (with_reducible refine LeO.ite ?_ ?_)
   | (with_reducible refine LeO.bind ?_ (fun _ => ?_))
   | exact ih0 _ _ _ _ _ _
   | exact ih1 _ _ _ _ _ _
   | exact ih2 _ _ _ _ _ _ _
   | exact ih3 _ _ _ _ _ _ _ _ _
   | exact check_Check.mono _ _
   | exact check_Next.mono _ _ _
   | exact fairleadlaw06_awake.mono _
   | exact vm_Run.mono _ _ _ _ _ _ _ _ _ _ _
   | exact vm_Trace.mono _ _ _ _ _ _ _ _ _ _ _
   | exact LeO.none _
   | refine LeO.ite ?_ ?_
   | refine LeO.bind ?_ (fun _ => ?_)
  ·intro y0 y1 y2 y3 y4 y5 y6
   unfold fairleadlaw06_VmGoes.j2
   repeat' first
   | (with_reducible exact ih0 _ _ _ _ _ _)
   | (with_reducible exact ih1 _ _ _ _ _ _)
   | (with_reducible exact ih2 _ _ _ _ _ _ _)
   | (with_reducible exact ih3 _ _ _ _ _ _ _ _ _)
   | (with_reducible exact check_Check.mono _ _)
   | (with_reducible exact check_Next.mono _ _ _)
   | (with_reducible exact fairleadlaw06_awake.mono _)
   | (with_reducible exact vm_Run.mono _ _ _ _ _ _ _ _ _ _ _)
   | (with_reducible exact vm_Trace.mono _ _ _ _ _ _ _ _ _ _ _)
   | (with_reducible exact LeO.refl _)
   | (with_reducible exact LeO.none _)
   | (with_reducible refine LeO.ite ?_ ?_)
   | (with_reducible refine LeO.bind ?_ (fun _ => ?_))
   | exact ih0 _ _ _ _ _ _
   | exact ih1 _ _ _ _ _ _
   | exact ih2 _ _ _ _ _ _ _
   | exact ih3 _ _ _ _ _ _ _ _ _
   | exact check_Check.mono _ _
   | exact check_Next.mono _ _ _
   | exact fairleadlaw06_awake.mono _
   | exact vm_Run.mono _ _ _ _ _ _ _ _ _ _ _
   | exact vm_Trace.mono _ _ _ _ _ _ _ _ _ _ _
   | exact LeO.none _
   | refine LeO.ite ?_ ?_
   | refine LeO.bind ?_ (fun _ => ?_)
  ·intro y0 y1 y2 y3 y4 y5 y6 y7 y8
   unfold fairleadlaw06_VmGoes.l1
   repeat' first
   | (with_reducible exact ih0 _ _ _ _ _ _)
   | (with_reducible exact ih1 _ _ _ _ _ _)
   | (with_reducible exact ih2 _ _ _ _ _ _ _)
   | (with_reducible exact ih3 _ _ _ _ _ _ _ _ _)
   | (with_reducible exact check_Check.mono _ _)
   | (with_reducible exact check_Next.mono _ _ _)
   | (with_reducible exact fairleadlaw06_awake.mono _)
   | (with_reducible exact vm_Run.mono _ _ _ _ _ _ _ _ _ _ _)
   | (with_reducible exact vm_Trace.mono _ _ _ _ _ _ _ _ _ _ _)
   | (with_reducible exact LeO.refl _)
   | (with_reducible exact LeO.none _)
   | (with_reducible refine LeO.ite ?_ ?_)
   | (with_reducible refine LeO.bind ?_ (fun _ => ?_))
   | exact ih0 _ _ _ _ _ _
   | exact ih1 _ _ _ _ _ _
   | exact ih2 _ _ _ _ _ _ _
   | exact ih3 _ _ _ _ _ _ _ _ _
   | exact check_Check.mono _ _
   | exact check_Next.mono _ _ _
   | exact fairleadlaw06_awake.mono _
   | exact vm_Run.mono _ _ _ _ _ _ _ _ _ _ _
   | exact vm_Trace.mono _ _ _ _ _ _ _ _ _ _ _
   | exact LeO.none _
   | refine LeO.ite ?_ ?_
   | refine LeO.bind ?_ (fun _ => ?_)
theorem fairleadlaw06_VmGoes.mono : ∀ a0 a1 a2 a3 a4 a5 a6 a7 a8 a9 k, LeO (fairleadlaw06_VmGoes.f k a0 a1 a2 a3 a4 a5 a6 a7 a8 a9) (fairleadlaw06_VmGoes.f (k + 1) a0 a1 a2 a3 a4 a5 a6 a7 a8 a9) := by
 intro a0 a1 a2 a3 a4 a5 a6 a7 a8 a9 k
 obtain ⟨ih0, ih1, ih2, ih3⟩ := fairleadlaw06_VmGoes.mono_l k
 unfold fairleadlaw06_VmGoes.f
 repeat' first
   | (with_reducible exact ih0 _ _ _ _ _ _)
   | (with_reducible exact ih1 _ _ _ _ _ _)
   | (with_reducible exact ih2 _ _ _ _ _ _ _)
   | (with_reducible exact ih3 _ _ _ _ _ _ _ _ _)
   | (with_reducible exact check_Check.mono _ _)
   | (with_reducible exact check_Next.mono _ _ _)
   | (with_reducible exact fairleadlaw06_awake.mono _)
   | (with_reducible exact vm_Run.mono _ _ _ _ _ _ _ _ _ _ _)
   | (with_reducible exact vm_Trace.mono _ _ _ _ _ _ _ _ _ _ _)
   | (with_reducible exact LeO.refl _)
   | (with_reducible exact LeO.none _)
   | (with_reducible refine LeO.ite ?_ ?_)
   | (with_reducible refine LeO.bind ?_ (fun _ => ?_))
   | exact ih0 _ _ _ _ _ _
   | exact ih1 _ _ _ _ _ _
   | exact ih2 _ _ _ _ _ _ _
   | exact ih3 _ _ _ _ _ _ _ _ _
   | exact check_Check.mono _ _
   | exact check_Next.mono _ _ _
   | exact fairleadlaw06_awake.mono _
   | exact vm_Run.mono _ _ _ _ _ _ _ _ _ _ _
   | exact vm_Trace.mono _ _ _ _ _ _ _ _ _ _ _
   | exact LeO.none _
   | refine LeO.ite ?_ ?_
   | refine LeO.bind ?_ (fun _ => ?_)
set_option maxHeartbeats 8000000 in
set_option maxRecDepth 100000 in
theorem fairleadlaw06_VmGoes.calls (k : Nat) (A0 : Option Addr) (c0 : Nat) (l0 : List (S37)) (a1_0 : Int) (a1_1 : Int) (a1_2 : Int) (a1_3 : Int) (a1_4 : Int) (a1_5 : Int) (a1_6 : Int) (a1_7 : Int) (a1_8 : Int) (r : Bool) (w : World) (hr0 : Kd.C k37 w A0 l0.length l0) (hc0 : l0.length ≤ c0) (h : fairleadlaw06_VmGoes.f k l0 a1_0 a1_1 a1_2 a1_3 a1_4 a1_5 a1_6 a1_7 a1_8 = some r) :
  Calls Try.prog 8 #[.slice A0 l0.length c0, .agg #[.int .u32 a1_0, .int .u32 a1_1, .int .u64 a1_2, .int .u64 a1_3, .int .u64 a1_4, .int .u64 a1_5, .int .u64 a1_6, .int .u64 a1_7, .int .u64 a1_8]] w fun e w' => e = .returned (.bool r) ∧ Below w.heap.size w w' := by
 have hu27 := Try.underlying27
 have HR0 := Aside0.mk hr0
 have HC0 := Aside0.mk hc0
 clear hr0 hc0
 have HB := Aside0.mk (Below.refl w.heap.size w)
 have H : ((fairleadlaw06_awake.f k).bind fun t432 => ((vm_Run.f k l0 a1_0 a1_1 a1_2 a1_3 a1_4 a1_5 a1_6 a1_7 a1_8).bind fun bt433 => ((vm_Trace.f k l0 a1_0 a1_1 a1_2 a1_3 a1_4 a1_5 a1_6 a1_7 a1_8).bind fun bt436 => (if bt433.2.2 = bt436.2 then (if bt433.2.2 = 0 then (if (bt436.1.length : Int) = bt433.2.1 then (if bt433.2.1 < 1 then (fairleadlaw06_VmGoes.j0 k l0 t432 bt433.1 bt433.2.1 bt436.1 true) else (if bt433.2.1 > (l0.length : Int) then (fairleadlaw06_VmGoes.j0 k l0 t432 bt433.1 bt433.2.1 bt436.1 true) else (if 0 < (bt436.1.length : Int) then (fairleadlaw06_VmGoes.j0 k l0 t432 bt433.1 bt433.2.1 bt436.1 ((rd bt436.1 0) != 0)) else (none)))) else (fairleadlaw06_VmGoes.j0 k l0 t432 bt433.1 bt433.2.1 bt436.1 true)) else ((check_Check.f k l0).bind fun bt440 => (if t432 = true then (if bt433.1 = 0 then (if bt433.2.1 = 0 then (if (bt436.1.length : Int) = 0 then (some (bt440.1 == bt433.2.2)) else (some false)) else (some false)) else (some false)) else (some false)))) else (some false))))) = some r := h
 clear h
 replace H := Option.bind_eq_some_iff.mp H
 obtain ⟨t432, A30, H⟩ := H
 replace H : ((vm_Run.f k l0 a1_0 a1_1 a1_2 a1_3 a1_4 a1_5 a1_6 a1_7 a1_8).bind fun bt433 => ((vm_Trace.f k l0 a1_0 a1_1 a1_2 a1_3 a1_4 a1_5 a1_6 a1_7 a1_8).bind fun bt436 => (if bt433.2.2 = bt436.2 then (if bt433.2.2 = 0 then (if (bt436.1.length : Int) = bt433.2.1 then (if bt433.2.1 < 1 then (fairleadlaw06_VmGoes.j0 k l0 t432 bt433.1 bt433.2.1 bt436.1 true) else (if bt433.2.1 > (l0.length : Int) then (fairleadlaw06_VmGoes.j0 k l0 t432 bt433.1 bt433.2.1 bt436.1 true) else (if 0 < (bt436.1.length : Int) then (fairleadlaw06_VmGoes.j0 k l0 t432 bt433.1 bt433.2.1 bt436.1 ((rd bt436.1 0) != 0)) else (none)))) else (fairleadlaw06_VmGoes.j0 k l0 t432 bt433.1 bt433.2.1 bt436.1 true)) else ((check_Check.f k l0).bind fun bt440 => (if t432 = true then (if bt433.1 = 0 then (if bt433.2.1 = 0 then (if (bt436.1.length : Int) = 0 then (some (bt440.1 == bt433.2.2)) else (some false)) else (some false)) else (some false)) else (some false)))) else (some false)))) = some r := H
 have A3 := Aside0.mk A30
 clear A30
 replace H := Option.bind_eq_some_iff.mp H
 obtain ⟨⟨t433, t434, t435⟩, A40, H⟩ := H
 replace H : ((vm_Trace.f k l0 a1_0 a1_1 a1_2 a1_3 a1_4 a1_5 a1_6 a1_7 a1_8).bind fun bt436 => (if t435 = bt436.2 then (if t435 = 0 then (if (bt436.1.length : Int) = t434 then (if t434 < 1 then (fairleadlaw06_VmGoes.j0 k l0 t432 t433 t434 bt436.1 true) else (if t434 > (l0.length : Int) then (fairleadlaw06_VmGoes.j0 k l0 t432 t433 t434 bt436.1 true) else (if 0 < (bt436.1.length : Int) then (fairleadlaw06_VmGoes.j0 k l0 t432 t433 t434 bt436.1 ((rd bt436.1 0) != 0)) else (none)))) else (fairleadlaw06_VmGoes.j0 k l0 t432 t433 t434 bt436.1 true)) else ((check_Check.f k l0).bind fun bt440 => (if t432 = true then (if t433 = 0 then (if t434 = 0 then (if (bt436.1.length : Int) = 0 then (some (bt440.1 == t435)) else (some false)) else (some false)) else (some false)) else (some false)))) else (some false))) = some r := H
 have A4 := Aside0.mk A40
 clear A40
 replace H := Option.bind_eq_some_iff.mp H
 obtain ⟨⟨t436, t439⟩, A50, H⟩ := H
 replace H : (if t435 = t439 then (if t435 = 0 then (if (t436.length : Int) = t434 then (if t434 < 1 then (fairleadlaw06_VmGoes.j0 k l0 t432 t433 t434 t436 true) else (if t434 > (l0.length : Int) then (fairleadlaw06_VmGoes.j0 k l0 t432 t433 t434 t436 true) else (if 0 < (t436.length : Int) then (fairleadlaw06_VmGoes.j0 k l0 t432 t433 t434 t436 ((rd t436 0) != 0)) else (none)))) else (fairleadlaw06_VmGoes.j0 k l0 t432 t433 t434 t436 true)) else ((check_Check.f k l0).bind fun bt440 => (if t432 = true then (if t433 = 0 then (if t434 = 0 then (if (t436.length : Int) = 0 then (some (bt440.1 == t435)) else (some false)) else (some false)) else (some false)) else (some false)))) else (some false)) = some r := H
 have A5 := Aside0.mk A50
 clear A50
 by_cases c6 : t435 = t439
 ·rw [if_pos c6] at H
  have c6b0 : (t435 == t439) = true := beq_iff_eq.mpr c6
  have c6b1 : (t435 != t439) = false := bne_eq_false_iff_eq.mpr c6
  clear c6
  by_cases c7 : t435 = 0
  ·rw [if_pos c7] at H
   have c7b0 : (t435 == 0) = true := beq_iff_eq.mpr c7
   have c7b1 : (t435 != 0) = false := bne_eq_false_iff_eq.mpr c7
   clear c7
   have HC8 := Aside0.mk H
   clear H
   go_enter Try.func8, Try.ntmps8
   go_upto_region 9 with (first | ((with_reducible refine gate_dst (N := 3) rfl ?_); (try (refine gate_guard (by rfl) ?_; dsimp only)); refine box_event ?hg (N := 3) ?hd (cs := #[.int .u32 a1_0, .int .u32 a1_1, .int .u64 a1_2, .int .u64 a1_3, .int .u64 a1_4, .int .u64 a1_5, .int .u64 a1_6, .int .u64 a1_7, .int .u64 a1_8]) (t := 27) ?hr ?_; (case hd => rfl); (case hg => rfl); (case hr => first | (go_simp; done) | (go_simp; rfl)); intro gb431 hg w9 hbox hb; have n0_ := Aside0.mk (below_step (by repeat (first | (with_reducible first | exact HB.out | apply below_alloc | apply pw_below_drewN | apply below_drew1) | exact HB.out)) hb); have n1_ := Aside0.mk (hbox); have n2_ := Aside0.mk ((by rw [hg]; exact (below_size (by repeat (first | (with_reducible first | exact HB.out | apply below_alloc | apply pw_below_drewN | apply below_drew1) | exact HB.out))) : w.heap.size ≤ gb431)); have n3_ := Aside0.mk ((by rw [hg]; exact (below_size (by repeat (first | (with_reducible first | exact HB.out | apply below_alloc | apply pw_below_drewN | apply below_drew1) | exact HB.out))) : w.heap.size ≤ gb431)); clear HB; have HB := n0_; have BK431 := n1_; have GW431 := n2_; have GE431 := n3_; clear n0_ n1_ n2_ n3_; clear hb hbox hg) | (go_at_call 9; (with_reducible refine (fairleadlaw06_awake.calls k  t432 _ A3.out).mono ?_); rintro e w10 ⟨rfl, hb⟩; have n0_ := Aside0.mk (blk_below (g := gb431) (o := .cells #[.int .u32 a1_0, .int .u32 a1_1, .int .u64 a1_2, .int .u64 a1_3, .int .u64 a1_4, .int .u64 a1_5, .int .u64 a1_6, .int .u64 a1_7, .int .u64 a1_8] 27 (0, 0)) (by (with_reducible repeat (first | refine blk_drewN ?_ _ | refine blk_drew ?_ | refine blk_alloc ?_ _)); exact BK431.out) hb); have n1_ := Aside0.mk (below_step (by repeat (first | (with_reducible first | exact HB.out | apply below_alloc | apply pw_below_drewN | apply below_drew1 | refine below_set ?_ GE431.out) | exact HB.out)) hb); clear BK431; clear HB; have BK431 := n0_; have HB := n1_; clear n0_ n1_; (try clear hb); (try clear hb2); (try clear hk); (try clear hi); have hcz11_0 : w10.cell? ⟨gb431, 0, none⟩ = some (.int .u32 a1_0) := (blk_cell BK431.out 0).trans rfl; have hcz11_1 : w10.cell? ⟨gb431, 1, none⟩ = some (.int .u32 a1_1) := (blk_cell BK431.out 1).trans rfl; have hcz11_2 : w10.cell? ⟨gb431, 2, none⟩ = some (.int .u64 a1_2) := (blk_cell BK431.out 2).trans rfl; have hcz11_3 : w10.cell? ⟨gb431, 3, none⟩ = some (.int .u64 a1_3) := (blk_cell BK431.out 3).trans rfl; have hcz11_4 : w10.cell? ⟨gb431, 4, none⟩ = some (.int .u64 a1_4) := (blk_cell BK431.out 4).trans rfl; have hcz11_5 : w10.cell? ⟨gb431, 5, none⟩ = some (.int .u64 a1_5) := (blk_cell BK431.out 5).trans rfl; have hcz11_6 : w10.cell? ⟨gb431, 6, none⟩ = some (.int .u64 a1_6) := (blk_cell BK431.out 6).trans rfl; have hcz11_7 : w10.cell? ⟨gb431, 7, none⟩ = some (.int .u64 a1_7) := (blk_cell BK431.out 7).trans rfl; have hcz11_8 : w10.cell? ⟨gb431, 8, none⟩ = some (.int .u64 a1_8) := (blk_cell BK431.out 8).trans rfl; have hfz11_0 := blk_frozen BK431.out 0; have hfz11_1 := blk_frozen BK431.out 1; have hfz11_2 := blk_frozen BK431.out 2; have hfz11_3 := blk_frozen BK431.out 3; have hfz11_4 := blk_frozen BK431.out 4; have hfz11_5 := blk_frozen BK431.out 5; have hfz11_6 := blk_frozen BK431.out 6; have hfz11_7 := blk_frozen BK431.out 7; have hfz11_8 := blk_frozen BK431.out 8) | (go_at_call 10; (with_reducible refine (vm_Run.calls k _ _ l0 a1_0 a1_1 a1_2 a1_3 a1_4 a1_5 a1_6 a1_7 a1_8 t433 t434 t435 _ ?side1 ?side2 A4.out).mono ?_); (case side1 => repeat (first | exact (Kd.C_below HR0.out HB.out) | (with_reducible refine Kd.C_alloc ?_ _) | (with_reducible refine Kd.C_drewN ?_ _) | (with_reducible refine Kd.C_drew ?_))); (case side2 => exact HC0.out); rintro e w12 ⟨rfl, hb⟩; have n0_ := Aside0.mk (blk_below (g := gb431) (o := .cells #[.int .u32 a1_0, .int .u32 a1_1, .int .u64 a1_2, .int .u64 a1_3, .int .u64 a1_4, .int .u64 a1_5, .int .u64 a1_6, .int .u64 a1_7, .int .u64 a1_8] 27 (0, 0)) (by (with_reducible repeat (first | refine blk_drewN ?_ _ | refine blk_drew ?_ | refine blk_alloc ?_ _)); exact BK431.out) hb); have n1_ := Aside0.mk (below_step (by repeat (first | (with_reducible first | exact HB.out | apply below_alloc | apply pw_below_drewN | apply below_drew1 | refine below_set ?_ GE431.out) | exact HB.out)) hb); clear BK431; clear HB; have BK431 := n0_; have HB := n1_; clear n0_ n1_; (try clear hb); (try clear hb2); (try clear hk); (try clear hi); have hcz13_0 : w12.cell? ⟨gb431, 0, none⟩ = some (.int .u32 a1_0) := (blk_cell BK431.out 0).trans rfl; have hcz13_1 : w12.cell? ⟨gb431, 1, none⟩ = some (.int .u32 a1_1) := (blk_cell BK431.out 1).trans rfl; have hcz13_2 : w12.cell? ⟨gb431, 2, none⟩ = some (.int .u64 a1_2) := (blk_cell BK431.out 2).trans rfl; have hcz13_3 : w12.cell? ⟨gb431, 3, none⟩ = some (.int .u64 a1_3) := (blk_cell BK431.out 3).trans rfl; have hcz13_4 : w12.cell? ⟨gb431, 4, none⟩ = some (.int .u64 a1_4) := (blk_cell BK431.out 4).trans rfl; have hcz13_5 : w12.cell? ⟨gb431, 5, none⟩ = some (.int .u64 a1_5) := (blk_cell BK431.out 5).trans rfl; have hcz13_6 : w12.cell? ⟨gb431, 6, none⟩ = some (.int .u64 a1_6) := (blk_cell BK431.out 6).trans rfl; have hcz13_7 : w12.cell? ⟨gb431, 7, none⟩ = some (.int .u64 a1_7) := (blk_cell BK431.out 7).trans rfl; have hcz13_8 : w12.cell? ⟨gb431, 8, none⟩ = some (.int .u64 a1_8) := (blk_cell BK431.out 8).trans rfl; have hfz13_0 := blk_frozen BK431.out 0; have hfz13_1 := blk_frozen BK431.out 1; have hfz13_2 := blk_frozen BK431.out 2; have hfz13_3 := blk_frozen BK431.out 3; have hfz13_4 := blk_frozen BK431.out 4; have hfz13_5 := blk_frozen BK431.out 5; have hfz13_6 := blk_frozen BK431.out 6; have hfz13_7 := blk_frozen BK431.out 7; have hfz13_8 := blk_frozen BK431.out 8) | (go_at_call 12; (with_reducible refine (vm_Trace.calls k _ _ l0 a1_0 a1_1 a1_2 a1_3 a1_4 a1_5 a1_6 a1_7 a1_8 t436 t439 _ ?side1 ?side2 A5.out).mono ?_); (case side1 => repeat (first | exact (Kd.C_below HR0.out HB.out) | (with_reducible refine Kd.C_alloc ?_ _) | (with_reducible refine Kd.C_drewN ?_ _) | (with_reducible refine Kd.C_drew ?_))); (case side2 => exact HC0.out); rintro e w14 ⟨v437, rfl, ho0, hb⟩; have n0_ := Aside0.mk (Kd.R_lower ho0 (below_size (by repeat (first | (with_reducible first | exact HB.out | apply below_alloc | apply pw_below_drewN | apply below_drew1 | refine below_set ?_ GE431.out) | exact HB.out)))); have n1_ := Aside0.mk (blk_below (g := gb431) (o := .cells #[.int .u32 a1_0, .int .u32 a1_1, .int .u64 a1_2, .int .u64 a1_3, .int .u64 a1_4, .int .u64 a1_5, .int .u64 a1_6, .int .u64 a1_7, .int .u64 a1_8] 27 (0, 0)) (by (with_reducible repeat (first | refine blk_drewN ?_ _ | refine blk_drew ?_ | refine blk_alloc ?_ _)); exact BK431.out) hb); have n2_ := Aside0.mk (below_step (by repeat (first | (with_reducible first | exact HB.out | apply below_alloc | apply pw_below_drewN | apply below_drew1 | refine below_set ?_ GE431.out) | exact HB.out)) hb); clear BK431; clear HB; have HO438 := n0_; have BK431 := n1_; have HB := n2_; clear n0_ n1_ n2_; (try clear hb); (try clear hb2); (try clear hk); (try clear hi); (try clear ho0)))
   (try simp only [Act.put, List.setIfInBounds_toArray, List.set_cons_zero, List.set_cons_succ])
   go_cut [81] (fun v81 wc => ∃ (kq : Nat) (x81_7 : Bool), v81 = .bool x81_7 ∧ Aside0 (fairleadlaw06_VmGoes.j0 kq l0 t432 t433 t434 t436 x81_7 = some r) ∧ Aside0 (kq ≤ k) ∧ Aside0 (Kd.R (Kd.int .i64) 3 wc w.heap.size (fun _ => True) v437 t436) ∧ Aside0 (wc.heap[gb431]? = some (.cells #[.int .u32 a1_0, .int .u32 a1_1, .int .u64 a1_2, .int .u64 a1_3, .int .u64 a1_4, .int .u64 a1_5, .int .u64 a1_6, .int .u64 a1_7, .int .u64 a1_8] 27 (0, 0))) ∧ Aside0 (Below w.heap.size w wc))
   case first =>
    have H := HC8.out
    clear HC8
    by_cases c15 : (t436.length : Int) = t434
    ·rw [if_pos c15] at H
     have c15b0 : ((t436.length : Int) == t434) = true := beq_iff_eq.mpr c15
     have c15b1 : ((t436.length : Int) != t434) = false := bne_eq_false_iff_eq.mpr c15
     clear c15
     (first | rw [c15b0] | (simp only [i64_w, i32_w]; rw [c15b0]) | skip)
     by_cases c16 : t434 < 1
     ·rw [if_pos c16] at H
      have c16b0 : decide (t434 < 1) = true := decide_eq_true c16
      clear c16
      have H' := Aside0.mk H
      clear H
      obtain ⟨Ao17, co17, eo17⟩ := Kd.R_slice HO438.out
      subst eo17
      go_wp2
      repeat (go_quiet (fail); try go_wp2)
      go_meet
      case rel => exact ⟨_, (true), (by first | rfl | (simp; done) | (simp [*]; done)), H', ⟨by first | omega | exact Nat.le_refl _⟩, ⟨by (with_reducible repeat (first | apply Kd.R_alloc | apply Kd.R_drewN | apply Kd.R_drew)); exact HO438.out⟩, ⟨by (with_reducible repeat (first | refine blk_drewN ?_ _ | refine blk_drew ?_ | refine blk_alloc ?_ _)); exact BK431.out⟩, ⟨by repeat (first | (with_reducible first | exact HB.out | apply below_alloc | apply pw_below_drewN | apply below_drew1 | refine below_set ?_ GE431.out) | exact HB.out)⟩⟩
     ·rw [if_neg c16] at H
      have c16b0 : decide (t434 < 1) = false := decide_eq_false c16
      clear c16
      by_cases c18 : t434 > (l0.length : Int)
      ·rw [if_pos c18] at H
       have c18b0 : decide ((l0.length : Int) < t434) = true := decide_eq_true c18
       clear c18
       have H' := Aside0.mk H
       clear H
       obtain ⟨Ao19, co19, eo19⟩ := Kd.R_slice HO438.out
       subst eo19
       go_wp2
       repeat (go_quiet (fail); try go_wp2)
       go_meet
       case rel => exact ⟨_, (true), (by first | rfl | (simp; done) | (simp [*]; done)), H', ⟨by first | omega | exact Nat.le_refl _⟩, ⟨by (with_reducible repeat (first | apply Kd.R_alloc | apply Kd.R_drewN | apply Kd.R_drew)); exact HO438.out⟩, ⟨by (with_reducible repeat (first | refine blk_drewN ?_ _ | refine blk_drew ?_ | refine blk_alloc ?_ _)); exact BK431.out⟩, ⟨by repeat (first | (with_reducible first | exact HB.out | apply below_alloc | apply pw_below_drewN | apply below_drew1 | refine below_set ?_ GE431.out) | exact HB.out)⟩⟩
      ·rw [if_neg c18] at H
       have c18b0 : decide ((l0.length : Int) < t434) = false := decide_eq_false c18
       clear c18
       by_cases c20 : 0 < (t436.length : Int)
       ·rw [if_pos c20] at H
        have c20b0 : decide (0 < (t436.length : Int)) = true := decide_eq_true c20
        have c20b1 : decide (0 < t436.length) = true := decide_eq_true (by omega)
        clear c20
        have H' := Aside0.mk H
        clear H
        obtain ⟨Ao21, co21, eo21⟩ := Kd.R_slice HO438.out
        subst eo21
        have p442 : 0 ≤ (0 : Int) := (by omega)
        have q442 : 0 < (t436.length : Int) := of_decide_eq_true (by first | (with_reducible assumption) | assumption)
        obtain ⟨ad442, e442, hx442_0⟩ := Kd.at_int (Kd.R_reads' HO438.out).2.2 0 p442 q442
        cases e442
        have qi442 : (0 < t436.length) = True := eq_true (by omega)
        (try rw [show ((0 : Int)).toNat = 0 from rfl] at hx442_0)
        (try rw [Addr.add_zero'] at hx442_0)
        replace p442 := eq_true p442
        replace q442 := eq_true q442
        go_wp2
        repeat (go_quiet (fail); try go_wp2)
        go_meet
        case rel => exact ⟨_, (((rd t436 0) != 0)), (by first | rfl | (simp; done) | (simp [*]; done)), H', ⟨by first | omega | exact Nat.le_refl _⟩, ⟨by (with_reducible repeat (first | apply Kd.R_alloc | apply Kd.R_drewN | apply Kd.R_drew)); exact HO438.out⟩, ⟨by (with_reducible repeat (first | refine blk_drewN ?_ _ | refine blk_drew ?_ | refine blk_alloc ?_ _)); exact BK431.out⟩, ⟨by repeat (first | (with_reducible first | exact HB.out | apply below_alloc | apply pw_below_drewN | apply below_drew1 | refine below_set ?_ GE431.out) | exact HB.out)⟩⟩
       ·rw [if_neg c20] at H
        exact absurd H (by simp)
    ·rw [if_neg c15] at H
     have c15b0 : ((t436.length : Int) == t434) = false := beq_eq_false_iff_ne.mpr c15
     have c15b1 : ((t436.length : Int) != t434) = true := bne_iff_ne.mpr c15
     (first | rw [c15b0] | (simp only [i64_w, i32_w]; rw [c15b0]) | skip)
     have H' := Aside0.mk H
     clear H
     obtain ⟨Ao22, co22, eo22⟩ := Kd.R_slice HO438.out
     subst eo22
     go_wp2
     repeat (go_quiet (fail); try go_wp2)
     go_meet
     case rel => exact ⟨_, (true), (by first | rfl | (simp; done) | (simp [*]; done)), H', ⟨by first | omega | exact Nat.le_refl _⟩, ⟨by (with_reducible repeat (first | apply Kd.R_alloc | apply Kd.R_drewN | apply Kd.R_drew)); exact HO438.out⟩, ⟨by (with_reducible repeat (first | refine blk_drewN ?_ _ | refine blk_drew ?_ | refine blk_alloc ?_ _)); exact BK431.out⟩, ⟨by repeat (first | (with_reducible first | exact HB.out | apply below_alloc | apply pw_below_drewN | apply below_drew1 | refine below_set ?_ GE431.out) | exact HB.out)⟩⟩
   case rest =>
    clear HC8
    try clear c1
    try clear c2
    try clear p2
    try clear p4
    try clear q4
    try clear hx4
    try clear qi4
    try clear c6
    try clear c6b0
    try clear c6b1
    try clear c7
    try clear c7b0
    try clear c7b1
    try clear c8
    try clear c15
    try clear c15b0
    try clear c15b1
    try clear c16
    try clear c16b0
    try clear c18
    try clear c18b0
    try clear c20
    try clear c20b0
    try clear c20b1
    try clear hcz11_0
    try clear hcz11_1
    try clear hcz11_2
    try clear hcz11_3
    try clear hcz11_4
    try clear hcz11_5
    try clear hcz11_6
    try clear hcz11_7
    try clear hcz11_8
    try clear hcz13_0
    try clear hcz13_1
    try clear hcz13_2
    try clear hcz13_3
    try clear hcz13_4
    try clear hcz13_5
    try clear hcz13_6
    try clear hcz13_7
    try clear hcz13_8
    try clear hfz11_0
    try clear hfz11_1
    try clear hfz11_2
    try clear hfz11_3
    try clear hfz11_4
    try clear hfz11_5
    try clear hfz11_6
    try clear hfz11_7
    try clear hfz11_8
    try clear hfz13_0
    try clear hfz13_1
    try clear hfz13_2
    try clear hfz13_3
    try clear hfz13_4
    try clear hfz13_5
    try clear hfz13_6
    try clear hfz13_7
    try clear hfz13_8
    try clear hx442_0
    try clear p442
    try clear q442
    obtain ⟨kq, x81_7, rfl, HA, HJ7, HO_9, BK431, HB⟩ := hcut
    cases kq with
    | zero => exact absurd HA.out (by simp [fairleadlaw06_VmGoes.j0])
    | succ kj7 =>
     have H := HA.out
     clear HA
     simp only [fairleadlaw06_VmGoes.j0] at H
     by_cases c23 : x81_7 = true
     ·subst c23
      have H1 : (some false) = some r := by rw [if_pos rfl] at H; exact H
      clear H
      have H := H1
      clear H1
      obtain rfl := Option.some.inj H
      go_wp2
      repeat (go_quiet (fail); try go_wp2)
      go_ret
      exact ⟨by first | rfl | (simp [errW_none, errW_some] <;> rfl) | (simp [*, errW_none, errW_some] <;> rfl), by repeat (first | (with_reducible first | exact HB.out | apply below_alloc | apply pw_below_drewN | apply below_drew1 | refine below_set ?_ GE431.out) | exact HB.out)⟩
     ·replace c23 := Bool.eq_false_iff.mpr c23
      subst c23
      have H1 : (fairleadlaw06_VmGoes.l0 kj7 l0 t432 t433 t434 t436 1) = some r := by rw [if_neg (show ¬ (false = true) by decide)] at H; exact H
      clear H
      have H := H1
      clear H1
      have H' := Aside0.mk H
      clear H
      go_wp2
      repeat (go_quiet (fail); try go_wp2)
      go_loopg [13] kj7 (fun kq v13 w' => ∃ (x13_2 : Int), v13 = .int .i64 x13_2 ∧ Aside0 (fairleadlaw06_VmGoes.l0 kq l0 t432 t433 t434 t436 x13_2 = some r) ∧ Aside0 (kq ≤ kj7) ∧ Aside0 (Kd.R (Kd.int .i64) 3 w' w.heap.size (fun _ => True) v437 t436) ∧ Aside0 (w'.heap[gb431]? = some (.cells #[.int .u32 a1_0, .int .u32 a1_1, .int .u64 a1_2, .int .u64 a1_3, .int .u64 a1_4, .int .u64 a1_5, .int .u64 a1_6, .int .u64 a1_7, .int .u64 a1_8] 27 (0, 0))) ∧ Aside0 (Below w.heap.size w w'))
      case atStart => exact ⟨(1), (by first | rfl | (simp; done) | (simp [*]; done)), H', ⟨Nat.le_refl _⟩, ⟨by (with_reducible repeat (first | apply Kd.R_alloc | apply Kd.R_drewN | apply Kd.R_drew)); exact HO_9.out⟩, ⟨by (with_reducible repeat (first | refine blk_drewN ?_ _ | refine blk_drew ?_ | refine blk_alloc ?_ _)); exact BK431.out⟩, ⟨by repeat (first | (with_reducible first | exact HB.out | apply below_alloc | apply pw_below_drewN | apply below_drew1 | refine below_set ?_ GE431.out) | exact HB.out)⟩⟩
      case round =>
       clear H'
       try clear c1
       try clear c2
       try clear p2
       try clear p4
       try clear q4
       try clear hx4
       try clear qi4
       try clear c6
       try clear c6b0
       try clear c6b1
       try clear c7
       try clear c7b0
       try clear c7b1
       try clear c8
       try clear c15
       try clear c15b0
       try clear c15b1
       try clear c16
       try clear c16b0
       try clear c18
       try clear c18b0
       try clear c20
       try clear c20b0
       try clear c20b1
       try clear c23
       try clear hcz11_0
       try clear hcz11_1
       try clear hcz11_2
       try clear hcz11_3
       try clear hcz11_4
       try clear hcz11_5
       try clear hcz11_6
       try clear hcz11_7
       try clear hcz11_8
       try clear hcz13_0
       try clear hcz13_1
       try clear hcz13_2
       try clear hcz13_3
       try clear hcz13_4
       try clear hcz13_5
       try clear hcz13_6
       try clear hcz13_7
       try clear hcz13_8
       try clear hfz11_0
       try clear hfz11_1
       try clear hfz11_2
       try clear hfz11_3
       try clear hfz11_4
       try clear hfz11_5
       try clear hfz11_6
       try clear hfz11_7
       try clear hfz11_8
       try clear hfz13_0
       try clear hfz13_1
       try clear hfz13_2
       try clear hfz13_3
       try clear hfz13_4
       try clear hfz13_5
       try clear hfz13_6
       try clear hfz13_7
       try clear hfz13_8
       try clear hx442_0
       try clear p2
       try clear p4
       try clear p442
       try clear q4
       try clear q442
       obtain ⟨x13_2, rfl, HA, HK2, HO_9, BK431, HB⟩ := hrel
       cases gk with
       | zero => exact absurd HA.out (by simp [fairleadlaw06_VmGoes.l0])
       | succ k2 =>
        have H := HA.out
        clear HA
        simp only [fairleadlaw06_VmGoes.l0] at H
        by_cases c24 : x13_2 < (t436.length : Int)
        ·rw [if_pos c24] at H
         have c24b0 : decide (x13_2 < (t436.length : Int)) = true := decide_eq_true c24
         clear c24
         have HC25 := Aside0.mk H
         clear H
         obtain ⟨Ao26, co26, eo26⟩ := Kd.R_slice HO_9.out
         subst eo26
         go_upto_region 14 with (fail)
         repeat (go_quiet (fail); go_upto_region 14 with (fail))
         go_cut [103] (fun v103 wc => ∃ (kq : Nat) (x103_24 : Bool), v103 = .bool x103_24 ∧ Aside0 (fairleadlaw06_VmGoes.j2 kq l0 t432 t433 t434 t436 x13_2 x103_24 = some r) ∧ Aside0 (kq ≤ k2) ∧ Aside0 (Kd.R (Kd.int .i64) 3 wc w.heap.size (fun _ => True) (.slice Ao26 t436.length co26) t436) ∧ Aside0 (wc.heap[gb431]? = some (.cells #[.int .u32 a1_0, .int .u32 a1_1, .int .u64 a1_2, .int .u64 a1_3, .int .u64 a1_4, .int .u64 a1_5, .int .u64 a1_6, .int .u64 a1_7, .int .u64 a1_8] 27 (0, 0))) ∧ Aside0 (Below w.heap.size w wc))
         case first =>
          have H := HC25.out
          clear HC25
          obtain ⟨ji27, hji27⟩ : ∃ j_ : Int, (wrap64 (x13_2 - 1)) = j_ := ⟨_, rfl⟩
          replace H : (if 0 ≤ (ji27) then (if (ji27) < (t436.length : Int) then (if (rd t436 (ji27)) < 0 then (fairleadlaw06_VmGoes.j2 k2 l0 t432 t433 t434 t436 x13_2 true) else (fairleadlaw06_VmGoes.j2 k2 l0 t432 t433 t434 t436 x13_2 (decide ((rd t436 (ji27)) ≥ (l0.length : Int))))) else (none)) else (none)) = some r := by first | (rw [hji27] at H; exact H) | (simp only [hji27] at H ⊢; exact H)
          have hji27w : (IntKind.i64.wrap (x13_2 - 1)) = ji27 := (i64_w _).trans hji27
          by_cases c28 : 0 ≤ (ji27)
          ·rw [if_pos c28] at H
           have c28b0 : decide (0 ≤ (ji27)) = true := decide_eq_true c28
           clear c28
           (first | rw [c28b0] | (simp only [i64_w, i32_w]; rw [c28b0]) | skip)
           by_cases c29 : (ji27) < (t436.length : Int)
           ·rw [if_pos c29] at H
            have c29b0 : decide ((ji27) < (t436.length : Int)) = true := decide_eq_true c29
            clear c29
            by_cases c30 : (rd t436 (ji27)) < 0
            ·rw [if_pos c30] at H
             have c30b0 : decide ((rd t436 (ji27)) < 0) = true := decide_eq_true c30
             clear c30
             have H' := Aside0.mk H
             clear H
             have p446 : 0 ≤ ((ji27) : Int) := of_decide_eq_true (by first | (with_reducible assumption) | assumption)
             have q446 : (ji27) < (t436.length : Int) := of_decide_eq_true (by first | (with_reducible assumption) | assumption)
             obtain ⟨ad446, e446, hx446_0⟩ := Kd.at_int (Kd.R_reads' HO_9.out).2.2 (ji27) p446 q446
             cases e446
             replace p446 := eq_true p446
             replace q446 := eq_true q446
             go_wp2
             repeat (go_quiet (fail); try go_wp2)
             go_meet
             case rel => exact ⟨_, (true), (by first | rfl | (simp; done) | (simp [*]; done)), H', ⟨by have := HJ7.out; have := HK2.out; first | omega | exact Nat.le_refl _⟩, ⟨by (with_reducible repeat (first | apply Kd.R_alloc | apply Kd.R_drewN | apply Kd.R_drew)); exact HO_9.out⟩, ⟨by (with_reducible repeat (first | refine blk_drewN ?_ _ | refine blk_drew ?_ | refine blk_alloc ?_ _)); exact BK431.out⟩, ⟨by repeat (first | (with_reducible first | exact HB.out | apply below_alloc | apply pw_below_drewN | apply below_drew1 | refine below_set ?_ GE431.out) | exact HB.out)⟩⟩
            ·rw [if_neg c30] at H
             have c30b0 : decide ((rd t436 (ji27)) < 0) = false := decide_eq_false c30
             clear c30
             have H' := Aside0.mk H
             clear H
             have p446 : 0 ≤ ((ji27) : Int) := of_decide_eq_true (by first | (with_reducible assumption) | assumption)
             have q446 : (ji27) < (t436.length : Int) := of_decide_eq_true (by first | (with_reducible assumption) | assumption)
             obtain ⟨ad446, e446, hx446_0⟩ := Kd.at_int (Kd.R_reads' HO_9.out).2.2 (ji27) p446 q446
             cases e446
             replace p446 := eq_true p446
             replace q446 := eq_true q446
             have p447 : 0 ≤ ((ji27) : Int) := of_decide_eq_true (by first | (with_reducible assumption) | assumption)
             have q447 : (ji27) < (t436.length : Int) := of_decide_eq_true (by first | (with_reducible assumption) | assumption)
             obtain ⟨ad447, e447, hx447_0⟩ := Kd.at_int (Kd.R_reads' HO_9.out).2.2 (ji27) p447 q447
             obtain rfl : ad446 = ad447 := (by injection e447)
             replace p447 := eq_true p447
             replace q447 := eq_true q447
             go_wp2
             repeat (go_quiet (fail); try go_wp2)
             go_meet
             case rel => exact ⟨_, (decide ((rd t436 (ji27)) ≥ (l0.length : Int))), (by first | rfl | (simp; done) | (simp only [← hji27] <;> (first | rfl | simp)) | (simp [*]; done)), H', ⟨by have := HJ7.out; have := HK2.out; first | omega | exact Nat.le_refl _⟩, ⟨by (with_reducible repeat (first | apply Kd.R_alloc | apply Kd.R_drewN | apply Kd.R_drew)); exact HO_9.out⟩, ⟨by (with_reducible repeat (first | refine blk_drewN ?_ _ | refine blk_drew ?_ | refine blk_alloc ?_ _)); exact BK431.out⟩, ⟨by repeat (first | (with_reducible first | exact HB.out | apply below_alloc | apply pw_below_drewN | apply below_drew1 | refine below_set ?_ GE431.out) | exact HB.out)⟩⟩
           ·rw [if_neg c29] at H
            exact absurd H (by simp)
          ·rw [if_neg c28] at H
           exact absurd H (by simp)
         case rest =>
          clear HC25
          try clear c1
          try clear c2
          try clear p2
          try clear c3
          try clear p4
          try clear q4
          try clear hx4
          try clear qi4
          try clear c6
          try clear c6b0
          try clear c6b1
          try clear p6
          try clear c7
          try clear c7b0
          try clear c7b1
          try clear c8
          try clear c15
          try clear c15b0
          try clear c15b1
          try clear c16
          try clear c16b0
          try clear c18
          try clear c18b0
          try clear c20
          try clear c20b0
          try clear c20b1
          try clear c23
          try clear c24
          try clear c24b0
          try clear c28
          try clear c28b0
          try clear c29
          try clear c29b0
          try clear c30
          try clear c30b0
          try clear hcz11_0
          try clear hcz11_1
          try clear hcz11_2
          try clear hcz11_3
          try clear hcz11_4
          try clear hcz11_5
          try clear hcz11_6
          try clear hcz11_7
          try clear hcz11_8
          try clear hcz13_0
          try clear hcz13_1
          try clear hcz13_2
          try clear hcz13_3
          try clear hcz13_4
          try clear hcz13_5
          try clear hcz13_6
          try clear hcz13_7
          try clear hcz13_8
          try clear hfz11_0
          try clear hfz11_1
          try clear hfz11_2
          try clear hfz11_3
          try clear hfz11_4
          try clear hfz11_5
          try clear hfz11_6
          try clear hfz11_7
          try clear hfz11_8
          try clear hfz13_0
          try clear hfz13_1
          try clear hfz13_2
          try clear hfz13_3
          try clear hfz13_4
          try clear hfz13_5
          try clear hfz13_6
          try clear hfz13_7
          try clear hfz13_8
          try clear hx442_0
          try clear hx446_0
          try clear hx447_0
          try clear p2
          try clear p4
          try clear p442
          try clear p446
          try clear p447
          try clear q4
          try clear q442
          try clear q446
          try clear q447
          obtain ⟨kq, x103_24, rfl, HA, HJ24, HO_9, BK431, HB⟩ := hcut
          cases kq with
          | zero => exact absurd HA.out (by simp [fairleadlaw06_VmGoes.j2])
          | succ kj24 =>
           have H := HA.out
           clear HA
           simp only [fairleadlaw06_VmGoes.j2] at H
           by_cases c31 : x103_24 = true
           ·subst c31
            have H1 : (some false) = some r := by rw [if_pos rfl] at H; exact H
            clear H
            have H := H1
            clear H1
            obtain rfl := Option.some.inj H
            go_wp2
            repeat (go_quiet (fail); try go_wp2)
            go_ret
            exact ⟨by first | rfl | (simp [errW_none, errW_some] <;> rfl) | (simp [*, errW_none, errW_some] <;> rfl), by repeat (first | (with_reducible first | exact HB.out | apply below_alloc | apply pw_below_drewN | apply below_drew1 | refine below_set ?_ GE431.out) | exact HB.out)⟩
           ·replace c31 := Bool.eq_false_iff.mpr c31
            subst c31
            have H1 : (if 0 ≤ (wrap64 (x13_2 - 1)) then (if (wrap64 (x13_2 - 1)) < (t436.length : Int) then ((check_Next.f kj24 l0 (rd t436 (wrap64 (x13_2 - 1)))).bind fun t449 => (fairleadlaw06_VmGoes.l1 kj24 l0 t432 t433 t434 t436 x13_2 t449 false 0)) else (none)) else (none)) = some r := by rw [if_neg (show ¬ (false = true) by decide)] at H; exact H
            clear H
            have H := H1
            clear H1
            obtain ⟨ji32, hji32⟩ : ∃ j_ : Int, (wrap64 (x13_2 - 1)) = j_ := ⟨_, rfl⟩
            replace H : (if 0 ≤ (ji32) then (if (ji32) < (t436.length : Int) then ((check_Next.f kj24 l0 (rd t436 (ji32))).bind fun t449 => (fairleadlaw06_VmGoes.l1 kj24 l0 t432 t433 t434 t436 x13_2 t449 false 0)) else (none)) else (none)) = some r := by first | (rw [hji32] at H; exact H) | (simp only [hji32] at H ⊢; exact H)
            have hji32w : (IntKind.i64.wrap (x13_2 - 1)) = ji32 := (i64_w _).trans hji32
            by_cases c33 : 0 ≤ (ji32)
            ·rw [if_pos c33] at H
             have c33b0 : decide (0 ≤ (ji32)) = true := decide_eq_true c33
             clear c33
             by_cases c34 : (ji32) < (t436.length : Int)
             ·rw [if_pos c34] at H
              have c34b0 : decide ((ji32) < (t436.length : Int)) = true := decide_eq_true c34
              clear c34
              replace H := Option.bind_eq_some_iff.mp H
              obtain ⟨t449, A350, H⟩ := H
              replace H : (fairleadlaw06_VmGoes.l1 kj24 l0 t432 t433 t434 t436 x13_2 t449 false 0) = some r := H
              have A35 := Aside0.mk A350
              clear A350
              have H' := Aside0.mk H
              clear H
              have p448 : 0 ≤ ((ji32) : Int) := of_decide_eq_true (by first | (with_reducible assumption) | assumption)
              have q448 : (ji32) < (t436.length : Int) := of_decide_eq_true (by first | (with_reducible assumption) | assumption)
              obtain ⟨ad448, e448, hx448_0⟩ := Kd.at_int (Kd.R_reads' HO_9.out).2.2 (ji32) p448 q448
              cases e448
              replace p448 := eq_true p448
              replace q448 := eq_true q448
              go_wp2_with (first | (go_at_call 16; (with_reducible refine (check_Next.calls kj24 _ _ l0 (rd t436 (ji32)) t449 _ ?side1 ?side2 A35.out).mono ?_); (case side1 => repeat (first | exact (Kd.C_below HR0.out HB.out) | (with_reducible refine Kd.C_alloc ?_ _) | (with_reducible refine Kd.C_drewN ?_ _) | (with_reducible refine Kd.C_drew ?_))); (case side2 => exact HC0.out); rintro e w36 ⟨v450, rfl, ho0, hb⟩; have n0_ := Aside0.mk (Kd.R_elder' (by (with_reducible repeat (first | apply Kd.R_alloc | apply Kd.R_drewN | apply Kd.R_drew)); exact HO_9.out) (Kd.R_base ho0) hb); have n1_ := Aside0.mk (Kd.R_lower (Kd.R_new' ho0 (Kd.R_lt (by (with_reducible repeat (first | apply Kd.R_alloc | apply Kd.R_drewN | apply Kd.R_drew)); exact HO_9.out))) (below_size (by repeat (first | (with_reducible first | exact HB.out | apply below_alloc | apply pw_below_drewN | apply below_drew1 | refine below_set ?_ GE431.out) | exact HB.out)))); have n2_ := Aside0.mk (blk_below (g := gb431) (o := .cells #[.int .u32 a1_0, .int .u32 a1_1, .int .u64 a1_2, .int .u64 a1_3, .int .u64 a1_4, .int .u64 a1_5, .int .u64 a1_6, .int .u64 a1_7, .int .u64 a1_8] 27 (0, 0)) (by (with_reducible repeat (first | refine blk_drewN ?_ _ | refine blk_drew ?_ | refine blk_alloc ?_ _)); exact BK431.out) hb); have n3_ := Aside0.mk (below_step (by repeat (first | (with_reducible first | exact HB.out | apply below_alloc | apply pw_below_drewN | apply below_drew1 | refine below_set ?_ GE431.out) | exact HB.out)) hb); clear HO_9; clear BK431; clear HB; have HO_9 := n0_; have HO451 := n1_; have BK431 := n2_; have HB := n3_; clear n0_ n1_ n2_ n3_; (try clear hb); (try clear hb2); (try clear hk); (try clear hi); (try clear ho0)))
              repeat (go_quiet (first | (go_at_call 16; (with_reducible refine (check_Next.calls kj24 _ _ l0 (rd t436 (ji32)) t449 _ ?side1 ?side2 A35.out).mono ?_); (case side1 => repeat (first | exact (Kd.C_below HR0.out HB.out) | (with_reducible refine Kd.C_alloc ?_ _) | (with_reducible refine Kd.C_drewN ?_ _) | (with_reducible refine Kd.C_drew ?_))); (case side2 => exact HC0.out); rintro e w36 ⟨v450, rfl, ho0, hb⟩; have n0_ := Aside0.mk (Kd.R_elder' (by (with_reducible repeat (first | apply Kd.R_alloc | apply Kd.R_drewN | apply Kd.R_drew)); exact HO_9.out) (Kd.R_base ho0) hb); have n1_ := Aside0.mk (Kd.R_lower (Kd.R_new' ho0 (Kd.R_lt (by (with_reducible repeat (first | apply Kd.R_alloc | apply Kd.R_drewN | apply Kd.R_drew)); exact HO_9.out))) (below_size (by repeat (first | (with_reducible first | exact HB.out | apply below_alloc | apply pw_below_drewN | apply below_drew1 | refine below_set ?_ GE431.out) | exact HB.out)))); have n2_ := Aside0.mk (blk_below (g := gb431) (o := .cells #[.int .u32 a1_0, .int .u32 a1_1, .int .u64 a1_2, .int .u64 a1_3, .int .u64 a1_4, .int .u64 a1_5, .int .u64 a1_6, .int .u64 a1_7, .int .u64 a1_8] 27 (0, 0)) (by (with_reducible repeat (first | refine blk_drewN ?_ _ | refine blk_drew ?_ | refine blk_alloc ?_ _)); exact BK431.out) hb); have n3_ := Aside0.mk (below_step (by repeat (first | (with_reducible first | exact HB.out | apply below_alloc | apply pw_below_drewN | apply below_drew1 | refine below_set ?_ GE431.out) | exact HB.out)) hb); clear HO_9; clear BK431; clear HB; have HO_9 := n0_; have HO451 := n1_; have BK431 := n2_; have HB := n3_; clear n0_ n1_ n2_ n3_; (try clear hb); (try clear hb2); (try clear hk); (try clear hi); (try clear ho0))); try go_wp2_with (first | (go_at_call 16; (with_reducible refine (check_Next.calls kj24 _ _ l0 (rd t436 (ji32)) t449 _ ?side1 ?side2 A35.out).mono ?_); (case side1 => repeat (first | exact (Kd.C_below HR0.out HB.out) | (with_reducible refine Kd.C_alloc ?_ _) | (with_reducible refine Kd.C_drewN ?_ _) | (with_reducible refine Kd.C_drew ?_))); (case side2 => exact HC0.out); rintro e w36 ⟨v450, rfl, ho0, hb⟩; have n0_ := Aside0.mk (Kd.R_elder' (by (with_reducible repeat (first | apply Kd.R_alloc | apply Kd.R_drewN | apply Kd.R_drew)); exact HO_9.out) (Kd.R_base ho0) hb); have n1_ := Aside0.mk (Kd.R_lower (Kd.R_new' ho0 (Kd.R_lt (by (with_reducible repeat (first | apply Kd.R_alloc | apply Kd.R_drewN | apply Kd.R_drew)); exact HO_9.out))) (below_size (by repeat (first | (with_reducible first | exact HB.out | apply below_alloc | apply pw_below_drewN | apply below_drew1 | refine below_set ?_ GE431.out) | exact HB.out)))); have n2_ := Aside0.mk (blk_below (g := gb431) (o := .cells #[.int .u32 a1_0, .int .u32 a1_1, .int .u64 a1_2, .int .u64 a1_3, .int .u64 a1_4, .int .u64 a1_5, .int .u64 a1_6, .int .u64 a1_7, .int .u64 a1_8] 27 (0, 0)) (by (with_reducible repeat (first | refine blk_drewN ?_ _ | refine blk_drew ?_ | refine blk_alloc ?_ _)); exact BK431.out) hb); have n3_ := Aside0.mk (below_step (by repeat (first | (with_reducible first | exact HB.out | apply below_alloc | apply pw_below_drewN | apply below_drew1 | refine below_set ?_ GE431.out) | exact HB.out)) hb); clear HO_9; clear BK431; clear HB; have HO_9 := n0_; have HO451 := n1_; have BK431 := n2_; have HB := n3_; clear n0_ n1_ n2_ n3_; (try clear hb); (try clear hb2); (try clear hk); (try clear hi); (try clear ho0))))
              go_loopg [15, 16] kj24 (fun kq v15 v16 w' => ∃ (x15_4 : Bool) (x16_4 : Int), v15 = .bool x15_4 ∧ v16 = .int .i64 x16_4 ∧ Aside0 (fairleadlaw06_VmGoes.l1 kq l0 t432 t433 t434 t436 x13_2 t449 x15_4 x16_4 = some r) ∧ Aside0 (kq ≤ kj24) ∧ Aside0 (Kd.R (Kd.int .i64) 3 w' w.heap.size (fun k_ => some k_ ≠ (v450 : Value).ownBlock) (.slice (some ad448) t436.length co26) t436) ∧ Aside0 (Kd.R (Kd.int .i64) 3 w' w.heap.size (fun k_ => some k_ ≠ ((.slice (some ad448) t436.length co26) : Value).ownBlock) v450 t449) ∧ Aside0 (w'.heap[gb431]? = some (.cells #[.int .u32 a1_0, .int .u32 a1_1, .int .u64 a1_2, .int .u64 a1_3, .int .u64 a1_4, .int .u64 a1_5, .int .u64 a1_6, .int .u64 a1_7, .int .u64 a1_8] 27 (0, 0))) ∧ Aside0 (Below w.heap.size w w'))
              case atStart => exact ⟨(false), (0), (by first | rfl | (simp; done) | (simp [*]; done)), (by first | rfl | (simp; done) | (simp [*]; done)), H', ⟨Nat.le_refl _⟩, ⟨by (with_reducible repeat (first | apply Kd.R_alloc | apply Kd.R_drewN | apply Kd.R_drew)); exact Kd.R_mono HO_9.out (fun _ hk => by first | exact hk.2 | exact hk | exact trivial)⟩, ⟨by (with_reducible repeat (first | apply Kd.R_alloc | apply Kd.R_drewN | apply Kd.R_drew)); exact Kd.R_mono HO451.out (fun _ hk => by first | exact hk.2 | exact hk | exact trivial)⟩, ⟨by (with_reducible repeat (first | refine blk_drewN ?_ _ | refine blk_drew ?_ | refine blk_alloc ?_ _)); exact BK431.out⟩, ⟨by repeat (first | (with_reducible first | exact HB.out | apply below_alloc | apply pw_below_drewN | apply below_drew1 | refine below_set ?_ GE431.out) | exact HB.out)⟩⟩
              case round =>
               clear H'
               try clear c1
               try clear c2
               try clear p2
               try clear c3
               try clear p4
               try clear q4
               try clear hx4
               try clear qi4
               try clear c6
               try clear c6b0
               try clear c6b1
               try clear p6
               try clear c7
               try clear c7b0
               try clear c7b1
               try clear c8
               try clear c15
               try clear c15b0
               try clear c15b1
               try clear c16
               try clear c16b0
               try clear c18
               try clear c18b0
               try clear c20
               try clear c20b0
               try clear c20b1
               try clear c23
               try clear c24
               try clear c24b0
               try clear c28
               try clear c28b0
               try clear c29
               try clear c29b0
               try clear c30
               try clear c30b0
               try clear c31
               try clear c33
               try clear c33b0
               try clear c34
               try clear c34b0
               try clear hcz11_0
               try clear hcz11_1
               try clear hcz11_2
               try clear hcz11_3
               try clear hcz11_4
               try clear hcz11_5
               try clear hcz11_6
               try clear hcz11_7
               try clear hcz11_8
               try clear hcz13_0
               try clear hcz13_1
               try clear hcz13_2
               try clear hcz13_3
               try clear hcz13_4
               try clear hcz13_5
               try clear hcz13_6
               try clear hcz13_7
               try clear hcz13_8
               try clear hfz11_0
               try clear hfz11_1
               try clear hfz11_2
               try clear hfz11_3
               try clear hfz11_4
               try clear hfz11_5
               try clear hfz11_6
               try clear hfz11_7
               try clear hfz11_8
               try clear hfz13_0
               try clear hfz13_1
               try clear hfz13_2
               try clear hfz13_3
               try clear hfz13_4
               try clear hfz13_5
               try clear hfz13_6
               try clear hfz13_7
               try clear hfz13_8
               try clear hx442_0
               try clear hx446_0
               try clear hx447_0
               try clear hx448_0
               try clear p2
               try clear p4
               try clear p442
               try clear p446
               try clear p447
               try clear p448
               try clear p6
               try clear q4
               try clear q442
               try clear q446
               try clear q447
               try clear q448
               obtain ⟨x15_4, x16_4, rfl, rfl, HA, HK4, HO_9, HO_14, BK431, HB⟩ := hrel
               cases gk with
               | zero => exact absurd HA.out (by simp [fairleadlaw06_VmGoes.l1])
               | succ k4 =>
                have H := HA.out
                clear HA
                simp only [fairleadlaw06_VmGoes.l1] at H
                by_cases c37 : x16_4 < (t449.length : Int)
                ·rw [if_pos c37] at H
                 have c37b0 : decide (x16_4 < (t449.length : Int)) = true := decide_eq_true c37
                 clear c37
                 by_cases c38 : x15_4 = true
                 ·subst c38
                  have H1 : (fairleadlaw06_VmGoes.l1 k4 l0 t432 t433 t434 t436 x13_2 t449 true (wrap64 (x16_4 + 1))) = some r := by rw [if_pos rfl] at H; exact H
                  clear H
                  have H := H1
                  clear H1
                  have H' := Aside0.mk H
                  clear H
                  obtain ⟨Ao39, co39, eo39⟩ := Kd.R_slice HO_14.out
                  subst eo39
                  go_wp2
                  repeat (go_quiet (fail); try go_wp2)
                  go_roundg k4
                  case measure => have := HJ7.out; have := HK2.out; have := HJ24.out; have := HK4.out; omega
                  case rel => exact ⟨(true), (wrap64 (x16_4 + 1)), (by first | rfl | (simp; done) | (simp [*]; done)), (by first | rfl | (simp; done) | (simp [*]; done)), H', ⟨by have := HJ7.out; have := HK2.out; have := HJ24.out; have := HK4.out; omega⟩, ⟨by (with_reducible repeat (first | apply Kd.R_alloc | apply Kd.R_drewN | apply Kd.R_drew)); exact HO_9.out⟩, ⟨by (with_reducible repeat (first | apply Kd.R_alloc | apply Kd.R_drewN | apply Kd.R_drew)); exact HO_14.out⟩, ⟨by (with_reducible repeat (first | refine blk_drewN ?_ _ | refine blk_drew ?_ | refine blk_alloc ?_ _)); exact BK431.out⟩, ⟨by repeat (first | (with_reducible first | exact HB.out | apply below_alloc | apply pw_below_drewN | apply below_drew1 | refine below_set ?_ GE431.out) | exact HB.out)⟩⟩
                 ·replace c38 := Bool.eq_false_iff.mpr c38
                  subst c38
                  have H1 : (if 0 ≤ x16_4 then (if 0 ≤ x13_2 then (if x13_2 < (t436.length : Int) then (fairleadlaw06_VmGoes.l1 k4 l0 t432 t433 t434 t436 x13_2 t449 ((rd t449 x16_4) == (rd t436 x13_2)) (wrap64 (x16_4 + 1))) else (none)) else (none)) else (none)) = some r := by rw [if_neg (show ¬ (false = true) by decide)] at H; exact H
                  clear H
                  have H := H1
                  clear H1
                  by_cases c40 : 0 ≤ x16_4
                  ·rw [if_pos c40] at H
                   have c40b0 : decide (0 ≤ x16_4) = true := decide_eq_true c40
                   clear c40
                   by_cases c41 : 0 ≤ x13_2
                   ·rw [if_pos c41] at H
                    have c41b0 : decide (0 ≤ x13_2) = true := decide_eq_true c41
                    clear c41
                    by_cases c42 : x13_2 < (t436.length : Int)
                    ·rw [if_pos c42] at H
                     have c42b0 : decide (x13_2 < (t436.length : Int)) = true := decide_eq_true c42
                     clear c42
                     have H' := Aside0.mk H
                     clear H
                     obtain ⟨Ao43, co43, eo43⟩ := Kd.R_slice HO_14.out
                     subst eo43
                     have p452 : 0 ≤ (x16_4 : Int) := of_decide_eq_true (by first | (with_reducible assumption) | assumption)
                     have q452 : x16_4 < (t449.length : Int) := of_decide_eq_true (by first | (with_reducible assumption) | assumption)
                     obtain ⟨ad452, e452, hx452_0⟩ := Kd.at_int (Kd.R_reads' HO_14.out).2.2 x16_4 p452 q452
                     cases e452
                     replace p452 := eq_true p452
                     replace q452 := eq_true q452
                     have p453 : 0 ≤ (x13_2 : Int) := of_decide_eq_true (by first | (with_reducible assumption) | assumption)
                     have q453 : x13_2 < (t436.length : Int) := of_decide_eq_true (by first | (with_reducible assumption) | assumption)
                     obtain ⟨ad453, e453, hx453_0⟩ := Kd.at_int (Kd.R_reads' HO_9.out).2.2 x13_2 p453 q453
                     obtain rfl : ad448 = ad453 := (by injection e453)
                     replace p453 := eq_true p453
                     replace q453 := eq_true q453
                     go_wp2
                     repeat (go_quiet (fail); try go_wp2)
                     go_roundg k4
                     case measure => have := HJ7.out; have := HK2.out; have := HJ24.out; have := HK4.out; omega
                     case rel => exact ⟨(((rd t449 x16_4) == (rd t436 x13_2))), (wrap64 (x16_4 + 1)), (by first | rfl | (simp; done) | (simp [*]; done)), (by first | rfl | (simp; done) | (simp [*]; done)), H', ⟨by have := HJ7.out; have := HK2.out; have := HJ24.out; have := HK4.out; omega⟩, ⟨by (with_reducible repeat (first | apply Kd.R_alloc | apply Kd.R_drewN | apply Kd.R_drew)); exact HO_9.out⟩, ⟨by (with_reducible repeat (first | apply Kd.R_alloc | apply Kd.R_drewN | apply Kd.R_drew)); exact HO_14.out⟩, ⟨by (with_reducible repeat (first | refine blk_drewN ?_ _ | refine blk_drew ?_ | refine blk_alloc ?_ _)); exact BK431.out⟩, ⟨by repeat (first | (with_reducible first | exact HB.out | apply below_alloc | apply pw_below_drewN | apply below_drew1 | refine below_set ?_ GE431.out) | exact HB.out)⟩⟩
                    ·rw [if_neg c42] at H
                     exact absurd H (by simp)
                   ·rw [if_neg c41] at H
                    exact absurd H (by simp)
                  ·rw [if_neg c40] at H
                   exact absurd H (by simp)
                ·rw [if_neg c37] at H
                 have c37b0 : decide (x16_4 < (t449.length : Int)) = false := decide_eq_false c37
                 clear c37
                 by_cases c44 : x15_4 = true
                 ·subst c44
                  have H1 : (if 0 ≤ x13_2 then (if x13_2 < (t436.length : Int) then (if 0 ≤ (wrap64 (x13_2 - 1)) then (if (wrap64 (x13_2 - 1)) < (t436.length : Int) then (if (rd t436 x13_2) ≤ (rd t436 (wrap64 (x13_2 - 1))) then (some false) else (fairleadlaw06_VmGoes.l0 k4 l0 t432 t433 t434 t436 (wrap64 (x13_2 + 1)))) else (none)) else (none)) else (none)) else (none)) = some r := by rw [if_pos rfl] at H; exact H
                  clear H
                  have H := H1
                  clear H1
                  by_cases c45 : 0 ≤ x13_2
                  ·rw [if_pos c45] at H
                   have c45b0 : decide (0 ≤ x13_2) = true := decide_eq_true c45
                   clear c45
                   by_cases c46 : x13_2 < (t436.length : Int)
                   ·rw [if_pos c46] at H
                    have c46b0 : decide (x13_2 < (t436.length : Int)) = true := decide_eq_true c46
                    clear c46
                    obtain ⟨ji47, hji47⟩ : ∃ j_ : Int, (wrap64 (x13_2 - 1)) = j_ := ⟨_, rfl⟩
                    obtain rfl : ji47 = ji32 := hji47.symm.trans hji32
                    replace H : (if 0 ≤ (ji47) then (if (ji47) < (t436.length : Int) then (if (rd t436 x13_2) ≤ (rd t436 (ji47)) then (some false) else (fairleadlaw06_VmGoes.l0 k4 l0 t432 t433 t434 t436 (wrap64 (x13_2 + 1)))) else (none)) else (none)) = some r := by first | (rw [hji47] at H; exact H) | (simp only [hji47] at H ⊢; exact H)
                    have hji47w : (IntKind.i64.wrap (x13_2 - 1)) = ji47 := (i64_w _).trans hji47
                    by_cases c48 : 0 ≤ (ji47)
                    ·rw [if_pos c48] at H
                     have c48b0 : decide (0 ≤ (ji47)) = true := decide_eq_true c48
                     clear c48
                     by_cases c49 : (ji47) < (t436.length : Int)
                     ·rw [if_pos c49] at H
                      have c49b0 : decide ((ji47) < (t436.length : Int)) = true := decide_eq_true c49
                      clear c49
                      by_cases c50 : (rd t436 x13_2) ≤ (rd t436 (ji47))
                      ·rw [if_pos c50] at H
                       have c50b0 : decide ((rd t436 x13_2) ≤ (rd t436 (ji47))) = true := decide_eq_true c50
                       clear c50
                       obtain rfl := Option.some.inj H
                       obtain ⟨Ao51, co51, eo51⟩ := Kd.R_slice HO_14.out
                       subst eo51
                       have p454 : 0 ≤ (x13_2 : Int) := of_decide_eq_true (by first | (with_reducible assumption) | assumption)
                       have q454 : x13_2 < (t436.length : Int) := of_decide_eq_true (by first | (with_reducible assumption) | assumption)
                       obtain ⟨ad454, e454, hx454_0⟩ := Kd.at_int (Kd.R_reads' HO_9.out).2.2 x13_2 p454 q454
                       obtain rfl : ad448 = ad454 := (by injection e454)
                       replace p454 := eq_true p454
                       replace q454 := eq_true q454
                       have p455 : 0 ≤ ((ji47) : Int) := of_decide_eq_true (by first | (with_reducible assumption) | assumption)
                       have q455 : (ji47) < (t436.length : Int) := of_decide_eq_true (by first | (with_reducible assumption) | assumption)
                       obtain ⟨ad455, e455, hx455_0⟩ := Kd.at_int (Kd.R_reads' HO_9.out).2.2 (ji47) p455 q455
                       obtain rfl : ad448 = ad455 := (by injection e455)
                       replace p455 := eq_true p455
                       replace q455 := eq_true q455
                       go_wp2
                       repeat (go_quiet (fail); try go_wp2)
                       go_ret
                       exact ⟨by first | rfl | (simp [errW_none, errW_some] <;> rfl) | (simp only [← hji32, ← hji47]; first | rfl | (simp [errW_none, errW_some] <;> rfl)) | (simp [*, errW_none, errW_some] <;> rfl), by repeat (first | (with_reducible first | exact HB.out | apply below_alloc | apply pw_below_drewN | apply below_drew1 | refine below_set ?_ GE431.out) | exact HB.out)⟩
                      ·rw [if_neg c50] at H
                       have c50b0 : decide ((rd t436 x13_2) ≤ (rd t436 (ji47))) = false := decide_eq_false c50
                       clear c50
                       have H' := Aside0.mk H
                       clear H
                       obtain ⟨Ao52, co52, eo52⟩ := Kd.R_slice HO_14.out
                       subst eo52
                       have p454 : 0 ≤ (x13_2 : Int) := of_decide_eq_true (by first | (with_reducible assumption) | assumption)
                       have q454 : x13_2 < (t436.length : Int) := of_decide_eq_true (by first | (with_reducible assumption) | assumption)
                       obtain ⟨ad454, e454, hx454_0⟩ := Kd.at_int (Kd.R_reads' HO_9.out).2.2 x13_2 p454 q454
                       obtain rfl : ad448 = ad454 := (by injection e454)
                       replace p454 := eq_true p454
                       replace q454 := eq_true q454
                       have p455 : 0 ≤ ((ji47) : Int) := of_decide_eq_true (by first | (with_reducible assumption) | assumption)
                       have q455 : (ji47) < (t436.length : Int) := of_decide_eq_true (by first | (with_reducible assumption) | assumption)
                       obtain ⟨ad455, e455, hx455_0⟩ := Kd.at_int (Kd.R_reads' HO_9.out).2.2 (ji47) p455 q455
                       obtain rfl : ad448 = ad455 := (by injection e455)
                       replace p455 := eq_true p455
                       replace q455 := eq_true q455
                       go_wp2
                       repeat (go_quiet (fail); try go_wp2)
                       go_roundg k4
                       case measure => have := HJ7.out; have := HK2.out; have := HJ24.out; have := HK4.out; omega
                       case rel => exact ⟨(wrap64 (x13_2 + 1)), (by first | rfl | (simp; done) | (simp [*]; done)), H', ⟨by have := HJ7.out; have := HK2.out; have := HJ24.out; have := HK4.out; omega⟩, ⟨by (with_reducible repeat (first | apply Kd.R_alloc | apply Kd.R_drewN | apply Kd.R_drew)); exact Kd.R_mono HO_9.out (fun _ hk => trivial)⟩, ⟨by (with_reducible repeat (first | refine blk_drewN ?_ _ | refine blk_drew ?_ | refine blk_alloc ?_ _)); exact BK431.out⟩, ⟨by repeat (first | (with_reducible first | exact HB.out | apply below_alloc | apply pw_below_drewN | apply below_drew1 | refine below_set ?_ GE431.out) | exact HB.out)⟩⟩
                     ·rw [if_neg c49] at H
                      exact absurd H (by simp)
                    ·rw [if_neg c48] at H
                     exact absurd H (by simp)
                   ·rw [if_neg c46] at H
                    exact absurd H (by simp)
                  ·rw [if_neg c45] at H
                   exact absurd H (by simp)
                 ·replace c44 := Bool.eq_false_iff.mpr c44
                  subst c44
                  have H1 : (some false) = some r := by rw [if_neg (show ¬ (false = true) by decide)] at H; exact H
                  clear H
                  have H := H1
                  clear H1
                  obtain rfl := Option.some.inj H
                  obtain ⟨Ao53, co53, eo53⟩ := Kd.R_slice HO_14.out
                  subst eo53
                  go_wp2
                  repeat (go_quiet (fail); try go_wp2)
                  go_ret
                  exact ⟨by first | rfl | (simp [errW_none, errW_some] <;> rfl) | (simp only [← hji32]; first | rfl | (simp [errW_none, errW_some] <;> rfl)) | (simp [*, errW_none, errW_some] <;> rfl), by repeat (first | (with_reducible first | exact HB.out | apply below_alloc | apply pw_below_drewN | apply below_drew1 | refine below_set ?_ GE431.out) | exact HB.out)⟩
             ·rw [if_neg c34] at H
              exact absurd H (by simp)
            ·rw [if_neg c33] at H
             exact absurd H (by simp)
        ·rw [if_neg c24] at H
         have c24b0 : decide (x13_2 < (t436.length : Int)) = false := decide_eq_false c24
         clear c24
         obtain ⟨ji54, hji54⟩ : ∃ j_ : Int, (wrap64 (t434 - 1)) = j_ := ⟨_, rfl⟩
         replace H : (if 0 ≤ (ji54) then (if (ji54) < (t436.length : Int) then (if (rd t436 (ji54)) < 0 then (some false) else (if (rd t436 (ji54)) ≥ (l0.length : Int) then (some false) else (if 0 ≤ (rd t436 (ji54)) then (if (rd t436 (ji54)) < (l0.length : Int) then (if t432 = true then (if ((rd_T37 l0 (rd t436 (ji54))).f0) = 6 then (if t433 = ((rd_T37 l0 (rd t436 (ji54))).f3) then (some true) else (if ((rd_T37 l0 (rd t436 (ji54))).f0) = 22 then (some true) else (if ((rd_T37 l0 (rd t436 (ji54))).f0) = 60 then (some (t433 == 0)) else (some false)))) else (if ((rd_T37 l0 (rd t436 (ji54))).f0) = 22 then (some true) else (if ((rd_T37 l0 (rd t436 (ji54))).f0) = 60 then (some (t433 == 0)) else (some false)))) else (some false)) else (none)) else (none)))) else (none)) else (none)) = some r := by first | (rw [hji54] at H; exact H) | (simp only [hji54] at H ⊢; exact H)
         have hji54w : (IntKind.i64.wrap (t434 - 1)) = ji54 := (i64_w _).trans hji54
         by_cases c55 : 0 ≤ (ji54)
         ·rw [if_pos c55] at H
          have c55b0 : decide (0 ≤ (ji54)) = true := decide_eq_true c55
          clear c55
          by_cases c56 : (ji54) < (t436.length : Int)
          ·rw [if_pos c56] at H
           have c56b0 : decide ((ji54) < (t436.length : Int)) = true := decide_eq_true c56
           clear c56
           by_cases c57 : (rd t436 (ji54)) < 0
           ·rw [if_pos c57] at H
            have c57b0 : decide ((rd t436 (ji54)) < 0) = true := decide_eq_true c57
            clear c57
            obtain rfl := Option.some.inj H
            obtain ⟨Ao58, co58, eo58⟩ := Kd.R_slice HO_9.out
            subst eo58
            have p443 : 0 ≤ ((ji54) : Int) := of_decide_eq_true (by first | (with_reducible assumption) | assumption)
            have q443 : (ji54) < (t436.length : Int) := of_decide_eq_true (by first | (with_reducible assumption) | assumption)
            obtain ⟨ad443, e443, hx443_0⟩ := Kd.at_int (Kd.R_reads' HO_9.out).2.2 (ji54) p443 q443
            cases e443
            replace p443 := eq_true p443
            replace q443 := eq_true q443
            go_wp2
            repeat (go_quiet (fail); try go_wp2)
            go_ret
            exact ⟨by first | rfl | (simp [errW_none, errW_some] <;> rfl) | (simp only [← hji54]; first | rfl | (simp [errW_none, errW_some] <;> rfl)) | (simp [*, errW_none, errW_some] <;> rfl), by repeat (first | (with_reducible first | exact HB.out | apply below_alloc | apply pw_below_drewN | apply below_drew1 | refine below_set ?_ GE431.out) | exact HB.out)⟩
           ·rw [if_neg c57] at H
            have c57b0 : decide ((rd t436 (ji54)) < 0) = false := decide_eq_false c57
            clear c57
            by_cases c59 : (rd t436 (ji54)) ≥ (l0.length : Int)
            ·rw [if_pos c59] at H
             have c59b0 : decide ((l0.length : Int) ≤ (rd t436 (ji54))) = true := decide_eq_true c59
             clear c59
             obtain rfl := Option.some.inj H
             obtain ⟨Ao60, co60, eo60⟩ := Kd.R_slice HO_9.out
             subst eo60
             have p443 : 0 ≤ ((ji54) : Int) := of_decide_eq_true (by first | (with_reducible assumption) | assumption)
             have q443 : (ji54) < (t436.length : Int) := of_decide_eq_true (by first | (with_reducible assumption) | assumption)
             obtain ⟨ad443, e443, hx443_0⟩ := Kd.at_int (Kd.R_reads' HO_9.out).2.2 (ji54) p443 q443
             cases e443
             replace p443 := eq_true p443
             replace q443 := eq_true q443
             go_wp2
             repeat (go_quiet (fail); try go_wp2)
             go_ret
             exact ⟨by first | rfl | (simp [errW_none, errW_some] <;> rfl) | (simp only [← hji54]; first | rfl | (simp [errW_none, errW_some] <;> rfl)) | (simp [*, errW_none, errW_some] <;> rfl), by repeat (first | (with_reducible first | exact HB.out | apply below_alloc | apply pw_below_drewN | apply below_drew1 | refine below_set ?_ GE431.out) | exact HB.out)⟩
            ·rw [if_neg c59] at H
             have c59b0 : decide ((l0.length : Int) ≤ (rd t436 (ji54))) = false := decide_eq_false c59
             clear c59
             by_cases c61 : 0 ≤ (rd t436 (ji54))
             ·rw [if_pos c61] at H
              have c61b0 : decide (0 ≤ (rd t436 (ji54))) = true := decide_eq_true c61
              clear c61
              by_cases c62 : (rd t436 (ji54)) < (l0.length : Int)
              ·rw [if_pos c62] at H
               have c62b0 : decide ((rd t436 (ji54)) < (l0.length : Int)) = true := decide_eq_true c62
               clear c62
               by_cases c63 : t432 = true
               ·subst c63
                have H1 : (if ((rd_T37 l0 (rd t436 (ji54))).f0) = 6 then (if t433 = ((rd_T37 l0 (rd t436 (ji54))).f3) then (some true) else (if ((rd_T37 l0 (rd t436 (ji54))).f0) = 22 then (some true) else (if ((rd_T37 l0 (rd t436 (ji54))).f0) = 60 then (some (t433 == 0)) else (some false)))) else (if ((rd_T37 l0 (rd t436 (ji54))).f0) = 22 then (some true) else (if ((rd_T37 l0 (rd t436 (ji54))).f0) = 60 then (some (t433 == 0)) else (some false)))) = some r := by rw [if_pos rfl] at H; exact H
                clear H
                have H := H1
                clear H1
                by_cases c64 : ((rd_T37 l0 (rd t436 (ji54))).f0) = 6
                ·rw [if_pos c64] at H
                 have c64b0 : (((rd_T37 l0 (rd t436 (ji54))).f0) == 6) = true := beq_iff_eq.mpr c64
                 have c64b1 : (((rd_T37 l0 (rd t436 (ji54))).f0) != 6) = false := bne_eq_false_iff_eq.mpr c64
                 clear c64
                 by_cases c65 : t433 = ((rd_T37 l0 (rd t436 (ji54))).f3)
                 ·rw [if_pos c65] at H
                  have c65b0 : (t433 == ((rd_T37 l0 (rd t436 (ji54))).f3)) = true := beq_iff_eq.mpr c65
                  have c65b1 : (t433 != ((rd_T37 l0 (rd t436 (ji54))).f3)) = false := bne_eq_false_iff_eq.mpr c65
                  clear c65
                  obtain rfl := Option.some.inj H
                  obtain ⟨Ao66, co66, eo66⟩ := Kd.R_slice HO_9.out
                  subst eo66
                  have p443 : 0 ≤ ((ji54) : Int) := of_decide_eq_true (by first | (with_reducible assumption) | assumption)
                  have q443 : (ji54) < (t436.length : Int) := of_decide_eq_true (by first | (with_reducible assumption) | assumption)
                  obtain ⟨ad443, e443, hx443_0⟩ := Kd.at_int (Kd.R_reads' HO_9.out).2.2 (ji54) p443 q443
                  cases e443
                  replace p443 := eq_true p443
                  replace q443 := eq_true q443
                  have p444 : 0 ≤ ((rd t436 (ji54)) : Int) := of_decide_eq_true (by first | (with_reducible assumption) | assumption)
                  have q444 : (rd t436 (ji54)) < (l0.length : Int) := of_decide_eq_true (by first | (with_reducible assumption) | assumption)
                  obtain ⟨ad444, e444, hx444_0, hx444_1, hx444_2, hx444_3⟩ := at_T37 HR0.out (rd t436 (ji54)) p444 q444
                  cases e444
                  replace hx444_0 := (HB.out.cell (World.block_lt_of_cell? w _ hx444_0)).trans hx444_0
                  replace hx444_1 := (HB.out.cell (World.block_lt_of_cell? w _ hx444_1)).trans hx444_1
                  replace hx444_2 := (HB.out.cell (World.block_lt_of_cell? w _ hx444_2)).trans hx444_2
                  replace hx444_3 := (HB.out.cell (World.block_lt_of_cell? w _ hx444_3)).trans hx444_3
                  replace p444 := eq_true p444
                  replace q444 := eq_true q444
                  have p445 : 0 ≤ ((rd t436 (ji54)) : Int) := of_decide_eq_true (by first | (with_reducible assumption) | assumption)
                  have q445 : (rd t436 (ji54)) < (l0.length : Int) := of_decide_eq_true (by first | (with_reducible assumption) | assumption)
                  obtain ⟨ad445, e445, hx445_0, hx445_1, hx445_2, hx445_3⟩ := at_T37 HR0.out (rd t436 (ji54)) p445 q445
                  obtain rfl : ad444 = ad445 := (by injection e445)
                  replace hx445_0 := (HB.out.cell (World.block_lt_of_cell? w _ hx445_0)).trans hx445_0
                  replace hx445_1 := (HB.out.cell (World.block_lt_of_cell? w _ hx445_1)).trans hx445_1
                  replace hx445_2 := (HB.out.cell (World.block_lt_of_cell? w _ hx445_2)).trans hx445_2
                  replace hx445_3 := (HB.out.cell (World.block_lt_of_cell? w _ hx445_3)).trans hx445_3
                  replace p445 := eq_true p445
                  replace q445 := eq_true q445
                  go_wp2
                  repeat (go_quiet (fail); try go_wp2)
                  go_ret
                  exact ⟨by first | rfl | (simp [errW_none, errW_some] <;> rfl) | (simp only [← hji54]; first | rfl | (simp [errW_none, errW_some] <;> rfl)) | (simp [*, errW_none, errW_some] <;> rfl), by repeat (first | (with_reducible first | exact HB.out | apply below_alloc | apply pw_below_drewN | apply below_drew1 | refine below_set ?_ GE431.out) | exact HB.out)⟩
                 ·rw [if_neg c65] at H
                  have c65b0 : (t433 == ((rd_T37 l0 (rd t436 (ji54))).f3)) = false := beq_eq_false_iff_ne.mpr c65
                  have c65b1 : (t433 != ((rd_T37 l0 (rd t436 (ji54))).f3)) = true := bne_iff_ne.mpr c65
                  by_cases c67 : ((rd_T37 l0 (rd t436 (ji54))).f0) = 22
                  ·rw [if_pos c67] at H
                   have c67b0 : (((rd_T37 l0 (rd t436 (ji54))).f0) == 22) = true := beq_iff_eq.mpr c67
                   have c67b1 : (((rd_T37 l0 (rd t436 (ji54))).f0) != 22) = false := bne_eq_false_iff_eq.mpr c67
                   clear c67
                   obtain rfl := Option.some.inj H
                   obtain ⟨Ao68, co68, eo68⟩ := Kd.R_slice HO_9.out
                   subst eo68
                   have p443 : 0 ≤ ((ji54) : Int) := of_decide_eq_true (by first | (with_reducible assumption) | assumption)
                   have q443 : (ji54) < (t436.length : Int) := of_decide_eq_true (by first | (with_reducible assumption) | assumption)
                   obtain ⟨ad443, e443, hx443_0⟩ := Kd.at_int (Kd.R_reads' HO_9.out).2.2 (ji54) p443 q443
                   cases e443
                   replace p443 := eq_true p443
                   replace q443 := eq_true q443
                   have p444 : 0 ≤ ((rd t436 (ji54)) : Int) := of_decide_eq_true (by first | (with_reducible assumption) | assumption)
                   have q444 : (rd t436 (ji54)) < (l0.length : Int) := of_decide_eq_true (by first | (with_reducible assumption) | assumption)
                   obtain ⟨ad444, e444, hx444_0, hx444_1, hx444_2, hx444_3⟩ := at_T37 HR0.out (rd t436 (ji54)) p444 q444
                   cases e444
                   replace hx444_0 := (HB.out.cell (World.block_lt_of_cell? w _ hx444_0)).trans hx444_0
                   replace hx444_1 := (HB.out.cell (World.block_lt_of_cell? w _ hx444_1)).trans hx444_1
                   replace hx444_2 := (HB.out.cell (World.block_lt_of_cell? w _ hx444_2)).trans hx444_2
                   replace hx444_3 := (HB.out.cell (World.block_lt_of_cell? w _ hx444_3)).trans hx444_3
                   replace p444 := eq_true p444
                   replace q444 := eq_true q444
                   have p445 : 0 ≤ ((rd t436 (ji54)) : Int) := of_decide_eq_true (by first | (with_reducible assumption) | assumption)
                   have q445 : (rd t436 (ji54)) < (l0.length : Int) := of_decide_eq_true (by first | (with_reducible assumption) | assumption)
                   obtain ⟨ad445, e445, hx445_0, hx445_1, hx445_2, hx445_3⟩ := at_T37 HR0.out (rd t436 (ji54)) p445 q445
                   obtain rfl : ad444 = ad445 := (by injection e445)
                   replace hx445_0 := (HB.out.cell (World.block_lt_of_cell? w _ hx445_0)).trans hx445_0
                   replace hx445_1 := (HB.out.cell (World.block_lt_of_cell? w _ hx445_1)).trans hx445_1
                   replace hx445_2 := (HB.out.cell (World.block_lt_of_cell? w _ hx445_2)).trans hx445_2
                   replace hx445_3 := (HB.out.cell (World.block_lt_of_cell? w _ hx445_3)).trans hx445_3
                   replace p445 := eq_true p445
                   replace q445 := eq_true q445
                   go_wp2
                   repeat (go_quiet (fail); try go_wp2)
                   go_ret
                   exact ⟨by first | rfl | (simp [errW_none, errW_some] <;> rfl) | (simp only [← hji54]; first | rfl | (simp [errW_none, errW_some] <;> rfl)) | (simp [*, errW_none, errW_some] <;> rfl), by repeat (first | (with_reducible first | exact HB.out | apply below_alloc | apply pw_below_drewN | apply below_drew1 | refine below_set ?_ GE431.out) | exact HB.out)⟩
                  ·rw [if_neg c67] at H
                   have c67b0 : (((rd_T37 l0 (rd t436 (ji54))).f0) == 22) = false := beq_eq_false_iff_ne.mpr c67
                   have c67b1 : (((rd_T37 l0 (rd t436 (ji54))).f0) != 22) = true := bne_iff_ne.mpr c67
                   by_cases c69 : ((rd_T37 l0 (rd t436 (ji54))).f0) = 60
                   ·rw [if_pos c69] at H
                    have c69b0 : (((rd_T37 l0 (rd t436 (ji54))).f0) == 60) = true := beq_iff_eq.mpr c69
                    have c69b1 : (((rd_T37 l0 (rd t436 (ji54))).f0) != 60) = false := bne_eq_false_iff_eq.mpr c69
                    clear c69
                    obtain rfl := Option.some.inj H
                    obtain ⟨Ao70, co70, eo70⟩ := Kd.R_slice HO_9.out
                    subst eo70
                    have p443 : 0 ≤ ((ji54) : Int) := of_decide_eq_true (by first | (with_reducible assumption) | assumption)
                    have q443 : (ji54) < (t436.length : Int) := of_decide_eq_true (by first | (with_reducible assumption) | assumption)
                    obtain ⟨ad443, e443, hx443_0⟩ := Kd.at_int (Kd.R_reads' HO_9.out).2.2 (ji54) p443 q443
                    cases e443
                    replace p443 := eq_true p443
                    replace q443 := eq_true q443
                    have p444 : 0 ≤ ((rd t436 (ji54)) : Int) := of_decide_eq_true (by first | (with_reducible assumption) | assumption)
                    have q444 : (rd t436 (ji54)) < (l0.length : Int) := of_decide_eq_true (by first | (with_reducible assumption) | assumption)
                    obtain ⟨ad444, e444, hx444_0, hx444_1, hx444_2, hx444_3⟩ := at_T37 HR0.out (rd t436 (ji54)) p444 q444
                    cases e444
                    replace hx444_0 := (HB.out.cell (World.block_lt_of_cell? w _ hx444_0)).trans hx444_0
                    replace hx444_1 := (HB.out.cell (World.block_lt_of_cell? w _ hx444_1)).trans hx444_1
                    replace hx444_2 := (HB.out.cell (World.block_lt_of_cell? w _ hx444_2)).trans hx444_2
                    replace hx444_3 := (HB.out.cell (World.block_lt_of_cell? w _ hx444_3)).trans hx444_3
                    replace p444 := eq_true p444
                    replace q444 := eq_true q444
                    have p445 : 0 ≤ ((rd t436 (ji54)) : Int) := of_decide_eq_true (by first | (with_reducible assumption) | assumption)
                    have q445 : (rd t436 (ji54)) < (l0.length : Int) := of_decide_eq_true (by first | (with_reducible assumption) | assumption)
                    obtain ⟨ad445, e445, hx445_0, hx445_1, hx445_2, hx445_3⟩ := at_T37 HR0.out (rd t436 (ji54)) p445 q445
                    obtain rfl : ad444 = ad445 := (by injection e445)
                    replace hx445_0 := (HB.out.cell (World.block_lt_of_cell? w _ hx445_0)).trans hx445_0
                    replace hx445_1 := (HB.out.cell (World.block_lt_of_cell? w _ hx445_1)).trans hx445_1
                    replace hx445_2 := (HB.out.cell (World.block_lt_of_cell? w _ hx445_2)).trans hx445_2
                    replace hx445_3 := (HB.out.cell (World.block_lt_of_cell? w _ hx445_3)).trans hx445_3
                    replace p445 := eq_true p445
                    replace q445 := eq_true q445
                    go_wp2
                    repeat (go_quiet (fail); try go_wp2)
                    go_ret
                    exact ⟨by first | rfl | (simp [errW_none, errW_some] <;> rfl) | (simp only [← hji54]; first | rfl | (simp [errW_none, errW_some] <;> rfl)) | (simp [*, errW_none, errW_some] <;> rfl), by repeat (first | (with_reducible first | exact HB.out | apply below_alloc | apply pw_below_drewN | apply below_drew1 | refine below_set ?_ GE431.out) | exact HB.out)⟩
                   ·rw [if_neg c69] at H
                    have c69b0 : (((rd_T37 l0 (rd t436 (ji54))).f0) == 60) = false := beq_eq_false_iff_ne.mpr c69
                    have c69b1 : (((rd_T37 l0 (rd t436 (ji54))).f0) != 60) = true := bne_iff_ne.mpr c69
                    obtain rfl := Option.some.inj H
                    obtain ⟨Ao71, co71, eo71⟩ := Kd.R_slice HO_9.out
                    subst eo71
                    have p443 : 0 ≤ ((ji54) : Int) := of_decide_eq_true (by first | (with_reducible assumption) | assumption)
                    have q443 : (ji54) < (t436.length : Int) := of_decide_eq_true (by first | (with_reducible assumption) | assumption)
                    obtain ⟨ad443, e443, hx443_0⟩ := Kd.at_int (Kd.R_reads' HO_9.out).2.2 (ji54) p443 q443
                    cases e443
                    replace p443 := eq_true p443
                    replace q443 := eq_true q443
                    have p444 : 0 ≤ ((rd t436 (ji54)) : Int) := of_decide_eq_true (by first | (with_reducible assumption) | assumption)
                    have q444 : (rd t436 (ji54)) < (l0.length : Int) := of_decide_eq_true (by first | (with_reducible assumption) | assumption)
                    obtain ⟨ad444, e444, hx444_0, hx444_1, hx444_2, hx444_3⟩ := at_T37 HR0.out (rd t436 (ji54)) p444 q444
                    cases e444
                    replace hx444_0 := (HB.out.cell (World.block_lt_of_cell? w _ hx444_0)).trans hx444_0
                    replace hx444_1 := (HB.out.cell (World.block_lt_of_cell? w _ hx444_1)).trans hx444_1
                    replace hx444_2 := (HB.out.cell (World.block_lt_of_cell? w _ hx444_2)).trans hx444_2
                    replace hx444_3 := (HB.out.cell (World.block_lt_of_cell? w _ hx444_3)).trans hx444_3
                    replace p444 := eq_true p444
                    replace q444 := eq_true q444
                    have p445 : 0 ≤ ((rd t436 (ji54)) : Int) := of_decide_eq_true (by first | (with_reducible assumption) | assumption)
                    have q445 : (rd t436 (ji54)) < (l0.length : Int) := of_decide_eq_true (by first | (with_reducible assumption) | assumption)
                    obtain ⟨ad445, e445, hx445_0, hx445_1, hx445_2, hx445_3⟩ := at_T37 HR0.out (rd t436 (ji54)) p445 q445
                    obtain rfl : ad444 = ad445 := (by injection e445)
                    replace hx445_0 := (HB.out.cell (World.block_lt_of_cell? w _ hx445_0)).trans hx445_0
                    replace hx445_1 := (HB.out.cell (World.block_lt_of_cell? w _ hx445_1)).trans hx445_1
                    replace hx445_2 := (HB.out.cell (World.block_lt_of_cell? w _ hx445_2)).trans hx445_2
                    replace hx445_3 := (HB.out.cell (World.block_lt_of_cell? w _ hx445_3)).trans hx445_3
                    replace p445 := eq_true p445
                    replace q445 := eq_true q445
                    go_wp2
                    repeat (go_quiet (fail); try go_wp2)
                    go_ret
                    exact ⟨by first | rfl | (simp [errW_none, errW_some] <;> rfl) | (simp only [← hji54]; first | rfl | (simp [errW_none, errW_some] <;> rfl)) | (simp [*, errW_none, errW_some] <;> rfl), by repeat (first | (with_reducible first | exact HB.out | apply below_alloc | apply pw_below_drewN | apply below_drew1 | refine below_set ?_ GE431.out) | exact HB.out)⟩
                ·rw [if_neg c64] at H
                 have c64b0 : (((rd_T37 l0 (rd t436 (ji54))).f0) == 6) = false := beq_eq_false_iff_ne.mpr c64
                 have c64b1 : (((rd_T37 l0 (rd t436 (ji54))).f0) != 6) = true := bne_iff_ne.mpr c64
                 by_cases c72 : ((rd_T37 l0 (rd t436 (ji54))).f0) = 22
                 ·rw [if_pos c72] at H
                  have c72b0 : (((rd_T37 l0 (rd t436 (ji54))).f0) == 22) = true := beq_iff_eq.mpr c72
                  have c72b1 : (((rd_T37 l0 (rd t436 (ji54))).f0) != 22) = false := bne_eq_false_iff_eq.mpr c72
                  clear c72
                  obtain rfl := Option.some.inj H
                  obtain ⟨Ao73, co73, eo73⟩ := Kd.R_slice HO_9.out
                  subst eo73
                  have p443 : 0 ≤ ((ji54) : Int) := of_decide_eq_true (by first | (with_reducible assumption) | assumption)
                  have q443 : (ji54) < (t436.length : Int) := of_decide_eq_true (by first | (with_reducible assumption) | assumption)
                  obtain ⟨ad443, e443, hx443_0⟩ := Kd.at_int (Kd.R_reads' HO_9.out).2.2 (ji54) p443 q443
                  cases e443
                  replace p443 := eq_true p443
                  replace q443 := eq_true q443
                  have p444 : 0 ≤ ((rd t436 (ji54)) : Int) := of_decide_eq_true (by first | (with_reducible assumption) | assumption)
                  have q444 : (rd t436 (ji54)) < (l0.length : Int) := of_decide_eq_true (by first | (with_reducible assumption) | assumption)
                  obtain ⟨ad444, e444, hx444_0, hx444_1, hx444_2, hx444_3⟩ := at_T37 HR0.out (rd t436 (ji54)) p444 q444
                  cases e444
                  replace hx444_0 := (HB.out.cell (World.block_lt_of_cell? w _ hx444_0)).trans hx444_0
                  replace hx444_1 := (HB.out.cell (World.block_lt_of_cell? w _ hx444_1)).trans hx444_1
                  replace hx444_2 := (HB.out.cell (World.block_lt_of_cell? w _ hx444_2)).trans hx444_2
                  replace hx444_3 := (HB.out.cell (World.block_lt_of_cell? w _ hx444_3)).trans hx444_3
                  replace p444 := eq_true p444
                  replace q444 := eq_true q444
                  go_wp2
                  repeat (go_quiet (fail); try go_wp2)
                  go_ret
                  exact ⟨by first | rfl | (simp [errW_none, errW_some] <;> rfl) | (simp only [← hji54]; first | rfl | (simp [errW_none, errW_some] <;> rfl)) | (simp [*, errW_none, errW_some] <;> rfl), by repeat (first | (with_reducible first | exact HB.out | apply below_alloc | apply pw_below_drewN | apply below_drew1 | refine below_set ?_ GE431.out) | exact HB.out)⟩
                 ·rw [if_neg c72] at H
                  have c72b0 : (((rd_T37 l0 (rd t436 (ji54))).f0) == 22) = false := beq_eq_false_iff_ne.mpr c72
                  have c72b1 : (((rd_T37 l0 (rd t436 (ji54))).f0) != 22) = true := bne_iff_ne.mpr c72
                  by_cases c74 : ((rd_T37 l0 (rd t436 (ji54))).f0) = 60
                  ·rw [if_pos c74] at H
                   have c74b0 : (((rd_T37 l0 (rd t436 (ji54))).f0) == 60) = true := beq_iff_eq.mpr c74
                   have c74b1 : (((rd_T37 l0 (rd t436 (ji54))).f0) != 60) = false := bne_eq_false_iff_eq.mpr c74
                   clear c74
                   obtain rfl := Option.some.inj H
                   obtain ⟨Ao75, co75, eo75⟩ := Kd.R_slice HO_9.out
                   subst eo75
                   have p443 : 0 ≤ ((ji54) : Int) := of_decide_eq_true (by first | (with_reducible assumption) | assumption)
                   have q443 : (ji54) < (t436.length : Int) := of_decide_eq_true (by first | (with_reducible assumption) | assumption)
                   obtain ⟨ad443, e443, hx443_0⟩ := Kd.at_int (Kd.R_reads' HO_9.out).2.2 (ji54) p443 q443
                   cases e443
                   replace p443 := eq_true p443
                   replace q443 := eq_true q443
                   have p444 : 0 ≤ ((rd t436 (ji54)) : Int) := of_decide_eq_true (by first | (with_reducible assumption) | assumption)
                   have q444 : (rd t436 (ji54)) < (l0.length : Int) := of_decide_eq_true (by first | (with_reducible assumption) | assumption)
                   obtain ⟨ad444, e444, hx444_0, hx444_1, hx444_2, hx444_3⟩ := at_T37 HR0.out (rd t436 (ji54)) p444 q444
                   cases e444
                   replace hx444_0 := (HB.out.cell (World.block_lt_of_cell? w _ hx444_0)).trans hx444_0
                   replace hx444_1 := (HB.out.cell (World.block_lt_of_cell? w _ hx444_1)).trans hx444_1
                   replace hx444_2 := (HB.out.cell (World.block_lt_of_cell? w _ hx444_2)).trans hx444_2
                   replace hx444_3 := (HB.out.cell (World.block_lt_of_cell? w _ hx444_3)).trans hx444_3
                   replace p444 := eq_true p444
                   replace q444 := eq_true q444
                   go_wp2
                   repeat (go_quiet (fail); try go_wp2)
                   go_ret
                   exact ⟨by first | rfl | (simp [errW_none, errW_some] <;> rfl) | (simp only [← hji54]; first | rfl | (simp [errW_none, errW_some] <;> rfl)) | (simp [*, errW_none, errW_some] <;> rfl), by repeat (first | (with_reducible first | exact HB.out | apply below_alloc | apply pw_below_drewN | apply below_drew1 | refine below_set ?_ GE431.out) | exact HB.out)⟩
                  ·rw [if_neg c74] at H
                   have c74b0 : (((rd_T37 l0 (rd t436 (ji54))).f0) == 60) = false := beq_eq_false_iff_ne.mpr c74
                   have c74b1 : (((rd_T37 l0 (rd t436 (ji54))).f0) != 60) = true := bne_iff_ne.mpr c74
                   obtain rfl := Option.some.inj H
                   obtain ⟨Ao76, co76, eo76⟩ := Kd.R_slice HO_9.out
                   subst eo76
                   have p443 : 0 ≤ ((ji54) : Int) := of_decide_eq_true (by first | (with_reducible assumption) | assumption)
                   have q443 : (ji54) < (t436.length : Int) := of_decide_eq_true (by first | (with_reducible assumption) | assumption)
                   obtain ⟨ad443, e443, hx443_0⟩ := Kd.at_int (Kd.R_reads' HO_9.out).2.2 (ji54) p443 q443
                   cases e443
                   replace p443 := eq_true p443
                   replace q443 := eq_true q443
                   have p444 : 0 ≤ ((rd t436 (ji54)) : Int) := of_decide_eq_true (by first | (with_reducible assumption) | assumption)
                   have q444 : (rd t436 (ji54)) < (l0.length : Int) := of_decide_eq_true (by first | (with_reducible assumption) | assumption)
                   obtain ⟨ad444, e444, hx444_0, hx444_1, hx444_2, hx444_3⟩ := at_T37 HR0.out (rd t436 (ji54)) p444 q444
                   cases e444
                   replace hx444_0 := (HB.out.cell (World.block_lt_of_cell? w _ hx444_0)).trans hx444_0
                   replace hx444_1 := (HB.out.cell (World.block_lt_of_cell? w _ hx444_1)).trans hx444_1
                   replace hx444_2 := (HB.out.cell (World.block_lt_of_cell? w _ hx444_2)).trans hx444_2
                   replace hx444_3 := (HB.out.cell (World.block_lt_of_cell? w _ hx444_3)).trans hx444_3
                   replace p444 := eq_true p444
                   replace q444 := eq_true q444
                   go_wp2
                   repeat (go_quiet (fail); try go_wp2)
                   go_ret
                   exact ⟨by first | rfl | (simp [errW_none, errW_some] <;> rfl) | (simp only [← hji54]; first | rfl | (simp [errW_none, errW_some] <;> rfl)) | (simp [*, errW_none, errW_some] <;> rfl), by repeat (first | (with_reducible first | exact HB.out | apply below_alloc | apply pw_below_drewN | apply below_drew1 | refine below_set ?_ GE431.out) | exact HB.out)⟩
               ·replace c63 := Bool.eq_false_iff.mpr c63
                subst c63
                have H1 : (some false) = some r := by rw [if_neg (show ¬ (false = true) by decide)] at H; exact H
                clear H
                have H := H1
                clear H1
                obtain rfl := Option.some.inj H
                obtain ⟨Ao77, co77, eo77⟩ := Kd.R_slice HO_9.out
                subst eo77
                have p443 : 0 ≤ ((ji54) : Int) := of_decide_eq_true (by first | (with_reducible assumption) | assumption)
                have q443 : (ji54) < (t436.length : Int) := of_decide_eq_true (by first | (with_reducible assumption) | assumption)
                obtain ⟨ad443, e443, hx443_0⟩ := Kd.at_int (Kd.R_reads' HO_9.out).2.2 (ji54) p443 q443
                cases e443
                replace p443 := eq_true p443
                replace q443 := eq_true q443
                have p444 : 0 ≤ ((rd t436 (ji54)) : Int) := of_decide_eq_true (by first | (with_reducible assumption) | assumption)
                have q444 : (rd t436 (ji54)) < (l0.length : Int) := of_decide_eq_true (by first | (with_reducible assumption) | assumption)
                obtain ⟨ad444, e444, hx444_0, hx444_1, hx444_2, hx444_3⟩ := at_T37 HR0.out (rd t436 (ji54)) p444 q444
                cases e444
                replace hx444_0 := (HB.out.cell (World.block_lt_of_cell? w _ hx444_0)).trans hx444_0
                replace hx444_1 := (HB.out.cell (World.block_lt_of_cell? w _ hx444_1)).trans hx444_1
                replace hx444_2 := (HB.out.cell (World.block_lt_of_cell? w _ hx444_2)).trans hx444_2
                replace hx444_3 := (HB.out.cell (World.block_lt_of_cell? w _ hx444_3)).trans hx444_3
                replace p444 := eq_true p444
                replace q444 := eq_true q444
                go_wp2
                repeat (go_quiet (fail); try go_wp2)
                go_ret
                exact ⟨by first | rfl | (simp [errW_none, errW_some] <;> rfl) | (simp only [← hji54]; first | rfl | (simp [errW_none, errW_some] <;> rfl)) | (simp [*, errW_none, errW_some] <;> rfl), by repeat (first | (with_reducible first | exact HB.out | apply below_alloc | apply pw_below_drewN | apply below_drew1 | refine below_set ?_ GE431.out) | exact HB.out)⟩
              ·rw [if_neg c62] at H
               exact absurd H (by simp)
             ·rw [if_neg c61] at H
              exact absurd H (by simp)
          ·rw [if_neg c56] at H
           exact absurd H (by simp)
         ·rw [if_neg c55] at H
          exact absurd H (by simp)
  ·rw [if_neg c7] at H
   have c7b0 : (t435 == 0) = false := beq_eq_false_iff_ne.mpr c7
   have c7b1 : (t435 != 0) = true := bne_iff_ne.mpr c7
   replace H := Option.bind_eq_some_iff.mp H
   obtain ⟨⟨t440, t441⟩, A780, H⟩ := H
   replace H : (if t432 = true then (if t433 = 0 then (if t434 = 0 then (if (t436.length : Int) = 0 then (some (t440 == t435)) else (some false)) else (some false)) else (some false)) else (some false)) = some r := H
   have A78 := Aside0.mk A780
   clear A780
   by_cases c79 : t432 = true
   ·subst c79
    have H1 : (if t433 = 0 then (if t434 = 0 then (if (t436.length : Int) = 0 then (some (t440 == t435)) else (some false)) else (some false)) else (some false)) = some r := by rw [if_pos rfl] at H; exact H
    clear H
    have H := H1
    clear H1
    by_cases c80 : t433 = 0
    ·rw [if_pos c80] at H
     have c80b0 : (t433 == 0) = true := beq_iff_eq.mpr c80
     have c80b1 : (t433 != 0) = false := bne_eq_false_iff_eq.mpr c80
     clear c80
     by_cases c81 : t434 = 0
     ·rw [if_pos c81] at H
      have c81b0 : (t434 == 0) = true := beq_iff_eq.mpr c81
      have c81b1 : (t434 != 0) = false := bne_eq_false_iff_eq.mpr c81
      clear c81
      by_cases c82 : (t436.length : Int) = 0
      ·rw [if_pos c82] at H
       have c82b0 : ((t436.length : Int) == 0) = true := beq_iff_eq.mpr c82
       have c82b1 : ((t436.length : Int) != 0) = false := bne_eq_false_iff_eq.mpr c82
       clear c82
       obtain rfl := Option.some.inj H
       go_enter Try.func8, Try.ntmps8
       go_wp2_with (first | ((with_reducible refine gate_dst (N := 3) rfl ?_); (try (refine gate_guard (by rfl) ?_; dsimp only)); refine box_event ?hg (N := 3) ?hd (cs := #[.int .u32 a1_0, .int .u32 a1_1, .int .u64 a1_2, .int .u64 a1_3, .int .u64 a1_4, .int .u64 a1_5, .int .u64 a1_6, .int .u64 a1_7, .int .u64 a1_8]) (t := 27) ?hr ?_; (case hd => rfl); (case hg => rfl); (case hr => first | (go_simp; done) | (go_simp; rfl)); intro gb431 hg w83 hbox hb; have n0_ := Aside0.mk (below_step (by repeat (first | (with_reducible first | exact HB.out | apply below_alloc | apply pw_below_drewN | apply below_drew1) | exact HB.out)) hb); have n1_ := Aside0.mk (hbox); have n2_ := Aside0.mk ((by rw [hg]; exact (below_size (by repeat (first | (with_reducible first | exact HB.out | apply below_alloc | apply pw_below_drewN | apply below_drew1) | exact HB.out))) : w.heap.size ≤ gb431)); have n3_ := Aside0.mk ((by rw [hg]; exact (below_size (by repeat (first | (with_reducible first | exact HB.out | apply below_alloc | apply pw_below_drewN | apply below_drew1) | exact HB.out))) : w.heap.size ≤ gb431)); clear HB; have HB := n0_; have BK431 := n1_; have GW431 := n2_; have GE431 := n3_; clear n0_ n1_ n2_ n3_; clear hb hbox hg) | (go_at_call 9; (with_reducible refine (fairleadlaw06_awake.calls k  true _ A3.out).mono ?_); rintro e w84 ⟨rfl, hb⟩; have n0_ := Aside0.mk (blk_below (g := gb431) (o := .cells #[.int .u32 a1_0, .int .u32 a1_1, .int .u64 a1_2, .int .u64 a1_3, .int .u64 a1_4, .int .u64 a1_5, .int .u64 a1_6, .int .u64 a1_7, .int .u64 a1_8] 27 (0, 0)) (by (with_reducible repeat (first | refine blk_drewN ?_ _ | refine blk_drew ?_ | refine blk_alloc ?_ _)); exact BK431.out) hb); have n1_ := Aside0.mk (below_step (by repeat (first | (with_reducible first | exact HB.out | apply below_alloc | apply pw_below_drewN | apply below_drew1 | refine below_set ?_ GE431.out) | exact HB.out)) hb); clear BK431; clear HB; have BK431 := n0_; have HB := n1_; clear n0_ n1_; (try clear hb); (try clear hb2); (try clear hk); (try clear hi); have hcz85_0 : w84.cell? ⟨gb431, 0, none⟩ = some (.int .u32 a1_0) := (blk_cell BK431.out 0).trans rfl; have hcz85_1 : w84.cell? ⟨gb431, 1, none⟩ = some (.int .u32 a1_1) := (blk_cell BK431.out 1).trans rfl; have hcz85_2 : w84.cell? ⟨gb431, 2, none⟩ = some (.int .u64 a1_2) := (blk_cell BK431.out 2).trans rfl; have hcz85_3 : w84.cell? ⟨gb431, 3, none⟩ = some (.int .u64 a1_3) := (blk_cell BK431.out 3).trans rfl; have hcz85_4 : w84.cell? ⟨gb431, 4, none⟩ = some (.int .u64 a1_4) := (blk_cell BK431.out 4).trans rfl; have hcz85_5 : w84.cell? ⟨gb431, 5, none⟩ = some (.int .u64 a1_5) := (blk_cell BK431.out 5).trans rfl; have hcz85_6 : w84.cell? ⟨gb431, 6, none⟩ = some (.int .u64 a1_6) := (blk_cell BK431.out 6).trans rfl; have hcz85_7 : w84.cell? ⟨gb431, 7, none⟩ = some (.int .u64 a1_7) := (blk_cell BK431.out 7).trans rfl; have hcz85_8 : w84.cell? ⟨gb431, 8, none⟩ = some (.int .u64 a1_8) := (blk_cell BK431.out 8).trans rfl; have hfz85_0 := blk_frozen BK431.out 0; have hfz85_1 := blk_frozen BK431.out 1; have hfz85_2 := blk_frozen BK431.out 2; have hfz85_3 := blk_frozen BK431.out 3; have hfz85_4 := blk_frozen BK431.out 4; have hfz85_5 := blk_frozen BK431.out 5; have hfz85_6 := blk_frozen BK431.out 6; have hfz85_7 := blk_frozen BK431.out 7; have hfz85_8 := blk_frozen BK431.out 8) | (go_at_call 10; (with_reducible refine (vm_Run.calls k _ _ l0 a1_0 a1_1 a1_2 a1_3 a1_4 a1_5 a1_6 a1_7 a1_8 t433 t434 t435 _ ?side1 ?side2 A4.out).mono ?_); (case side1 => repeat (first | exact (Kd.C_below HR0.out HB.out) | (with_reducible refine Kd.C_alloc ?_ _) | (with_reducible refine Kd.C_drewN ?_ _) | (with_reducible refine Kd.C_drew ?_))); (case side2 => exact HC0.out); rintro e w86 ⟨rfl, hb⟩; have n0_ := Aside0.mk (blk_below (g := gb431) (o := .cells #[.int .u32 a1_0, .int .u32 a1_1, .int .u64 a1_2, .int .u64 a1_3, .int .u64 a1_4, .int .u64 a1_5, .int .u64 a1_6, .int .u64 a1_7, .int .u64 a1_8] 27 (0, 0)) (by (with_reducible repeat (first | refine blk_drewN ?_ _ | refine blk_drew ?_ | refine blk_alloc ?_ _)); exact BK431.out) hb); have n1_ := Aside0.mk (below_step (by repeat (first | (with_reducible first | exact HB.out | apply below_alloc | apply pw_below_drewN | apply below_drew1 | refine below_set ?_ GE431.out) | exact HB.out)) hb); clear BK431; clear HB; have BK431 := n0_; have HB := n1_; clear n0_ n1_; (try clear hb); (try clear hb2); (try clear hk); (try clear hi); have hcz87_0 : w86.cell? ⟨gb431, 0, none⟩ = some (.int .u32 a1_0) := (blk_cell BK431.out 0).trans rfl; have hcz87_1 : w86.cell? ⟨gb431, 1, none⟩ = some (.int .u32 a1_1) := (blk_cell BK431.out 1).trans rfl; have hcz87_2 : w86.cell? ⟨gb431, 2, none⟩ = some (.int .u64 a1_2) := (blk_cell BK431.out 2).trans rfl; have hcz87_3 : w86.cell? ⟨gb431, 3, none⟩ = some (.int .u64 a1_3) := (blk_cell BK431.out 3).trans rfl; have hcz87_4 : w86.cell? ⟨gb431, 4, none⟩ = some (.int .u64 a1_4) := (blk_cell BK431.out 4).trans rfl; have hcz87_5 : w86.cell? ⟨gb431, 5, none⟩ = some (.int .u64 a1_5) := (blk_cell BK431.out 5).trans rfl; have hcz87_6 : w86.cell? ⟨gb431, 6, none⟩ = some (.int .u64 a1_6) := (blk_cell BK431.out 6).trans rfl; have hcz87_7 : w86.cell? ⟨gb431, 7, none⟩ = some (.int .u64 a1_7) := (blk_cell BK431.out 7).trans rfl; have hcz87_8 : w86.cell? ⟨gb431, 8, none⟩ = some (.int .u64 a1_8) := (blk_cell BK431.out 8).trans rfl; have hfz87_0 := blk_frozen BK431.out 0; have hfz87_1 := blk_frozen BK431.out 1; have hfz87_2 := blk_frozen BK431.out 2; have hfz87_3 := blk_frozen BK431.out 3; have hfz87_4 := blk_frozen BK431.out 4; have hfz87_5 := blk_frozen BK431.out 5; have hfz87_6 := blk_frozen BK431.out 6; have hfz87_7 := blk_frozen BK431.out 7; have hfz87_8 := blk_frozen BK431.out 8) | (go_at_call 12; (with_reducible refine (vm_Trace.calls k _ _ l0 a1_0 a1_1 a1_2 a1_3 a1_4 a1_5 a1_6 a1_7 a1_8 t436 t439 _ ?side1 ?side2 A5.out).mono ?_); (case side1 => repeat (first | exact (Kd.C_below HR0.out HB.out) | (with_reducible refine Kd.C_alloc ?_ _) | (with_reducible refine Kd.C_drewN ?_ _) | (with_reducible refine Kd.C_drew ?_))); (case side2 => exact HC0.out); rintro e w88 ⟨v437, rfl, ho0, hb⟩; have n0_ := Aside0.mk (Kd.R_lower ho0 (below_size (by repeat (first | (with_reducible first | exact HB.out | apply below_alloc | apply pw_below_drewN | apply below_drew1 | refine below_set ?_ GE431.out) | exact HB.out)))); have n1_ := Aside0.mk (blk_below (g := gb431) (o := .cells #[.int .u32 a1_0, .int .u32 a1_1, .int .u64 a1_2, .int .u64 a1_3, .int .u64 a1_4, .int .u64 a1_5, .int .u64 a1_6, .int .u64 a1_7, .int .u64 a1_8] 27 (0, 0)) (by (with_reducible repeat (first | refine blk_drewN ?_ _ | refine blk_drew ?_ | refine blk_alloc ?_ _)); exact BK431.out) hb); have n2_ := Aside0.mk (below_step (by repeat (first | (with_reducible first | exact HB.out | apply below_alloc | apply pw_below_drewN | apply below_drew1 | refine below_set ?_ GE431.out) | exact HB.out)) hb); clear BK431; clear HB; have HO438 := n0_; have BK431 := n1_; have HB := n2_; clear n0_ n1_ n2_; (try clear hb); (try clear hb2); (try clear hk); (try clear hi); (try clear ho0)) | (go_at_call 15; (with_reducible refine (check_Check.calls k _ _ l0 t440 t441 _ ?side1 ?side2 A78.out).mono ?_); (case side1 => repeat (first | exact (Kd.C_below HR0.out HB.out) | (with_reducible refine Kd.C_alloc ?_ _) | (with_reducible refine Kd.C_drewN ?_ _) | (with_reducible refine Kd.C_drew ?_))); (case side2 => exact HC0.out); rintro e w89 ⟨rfl, hb⟩; have n0_ := Aside0.mk (Kd.R_below (by (with_reducible repeat (first | apply Kd.R_alloc | apply Kd.R_drewN | apply Kd.R_drew)); exact HO438.out) hb); have n1_ := Aside0.mk (blk_below (g := gb431) (o := .cells #[.int .u32 a1_0, .int .u32 a1_1, .int .u64 a1_2, .int .u64 a1_3, .int .u64 a1_4, .int .u64 a1_5, .int .u64 a1_6, .int .u64 a1_7, .int .u64 a1_8] 27 (0, 0)) (by (with_reducible repeat (first | refine blk_drewN ?_ _ | refine blk_drew ?_ | refine blk_alloc ?_ _)); exact BK431.out) hb); have n2_ := Aside0.mk (below_step (by repeat (first | (with_reducible first | exact HB.out | apply below_alloc | apply pw_below_drewN | apply below_drew1 | refine below_set ?_ GE431.out) | exact HB.out)) hb); clear HO438; clear BK431; clear HB; have HO438 := n0_; have BK431 := n1_; have HB := n2_; clear n0_ n1_ n2_; (try clear hb); (try clear hb2); (try clear hk); (try clear hi); obtain ⟨Ao90, co90, eo90⟩ := Kd.R_slice HO438.out; subst eo90))
       go_ret
       exact ⟨by first | rfl | (simp [errW_none, errW_some] <;> rfl) | (simp [*, errW_none, errW_some] <;> rfl), by repeat (first | (with_reducible first | exact HB.out | apply below_alloc | apply pw_below_drewN | apply below_drew1 | refine below_set ?_ GE431.out) | exact HB.out)⟩
      ·rw [if_neg c82] at H
       have c82b0 : ((t436.length : Int) == 0) = false := beq_eq_false_iff_ne.mpr c82
       have c82b1 : ((t436.length : Int) != 0) = true := bne_iff_ne.mpr c82
       have c82b2 : ¬ (t436 = []) := fun h_ => c82 (by rw [h_]; rfl)
       obtain rfl := Option.some.inj H
       go_enter Try.func8, Try.ntmps8
       go_wp2_with (first | ((with_reducible refine gate_dst (N := 3) rfl ?_); (try (refine gate_guard (by rfl) ?_; dsimp only)); refine box_event ?hg (N := 3) ?hd (cs := #[.int .u32 a1_0, .int .u32 a1_1, .int .u64 a1_2, .int .u64 a1_3, .int .u64 a1_4, .int .u64 a1_5, .int .u64 a1_6, .int .u64 a1_7, .int .u64 a1_8]) (t := 27) ?hr ?_; (case hd => rfl); (case hg => rfl); (case hr => first | (go_simp; done) | (go_simp; rfl)); intro gb431 hg w91 hbox hb; have n0_ := Aside0.mk (below_step (by repeat (first | (with_reducible first | exact HB.out | apply below_alloc | apply pw_below_drewN | apply below_drew1) | exact HB.out)) hb); have n1_ := Aside0.mk (hbox); have n2_ := Aside0.mk ((by rw [hg]; exact (below_size (by repeat (first | (with_reducible first | exact HB.out | apply below_alloc | apply pw_below_drewN | apply below_drew1) | exact HB.out))) : w.heap.size ≤ gb431)); have n3_ := Aside0.mk ((by rw [hg]; exact (below_size (by repeat (first | (with_reducible first | exact HB.out | apply below_alloc | apply pw_below_drewN | apply below_drew1) | exact HB.out))) : w.heap.size ≤ gb431)); clear HB; have HB := n0_; have BK431 := n1_; have GW431 := n2_; have GE431 := n3_; clear n0_ n1_ n2_ n3_; clear hb hbox hg) | (go_at_call 9; (with_reducible refine (fairleadlaw06_awake.calls k  true _ A3.out).mono ?_); rintro e w92 ⟨rfl, hb⟩; have n0_ := Aside0.mk (blk_below (g := gb431) (o := .cells #[.int .u32 a1_0, .int .u32 a1_1, .int .u64 a1_2, .int .u64 a1_3, .int .u64 a1_4, .int .u64 a1_5, .int .u64 a1_6, .int .u64 a1_7, .int .u64 a1_8] 27 (0, 0)) (by (with_reducible repeat (first | refine blk_drewN ?_ _ | refine blk_drew ?_ | refine blk_alloc ?_ _)); exact BK431.out) hb); have n1_ := Aside0.mk (below_step (by repeat (first | (with_reducible first | exact HB.out | apply below_alloc | apply pw_below_drewN | apply below_drew1 | refine below_set ?_ GE431.out) | exact HB.out)) hb); clear BK431; clear HB; have BK431 := n0_; have HB := n1_; clear n0_ n1_; (try clear hb); (try clear hb2); (try clear hk); (try clear hi); have hcz93_0 : w92.cell? ⟨gb431, 0, none⟩ = some (.int .u32 a1_0) := (blk_cell BK431.out 0).trans rfl; have hcz93_1 : w92.cell? ⟨gb431, 1, none⟩ = some (.int .u32 a1_1) := (blk_cell BK431.out 1).trans rfl; have hcz93_2 : w92.cell? ⟨gb431, 2, none⟩ = some (.int .u64 a1_2) := (blk_cell BK431.out 2).trans rfl; have hcz93_3 : w92.cell? ⟨gb431, 3, none⟩ = some (.int .u64 a1_3) := (blk_cell BK431.out 3).trans rfl; have hcz93_4 : w92.cell? ⟨gb431, 4, none⟩ = some (.int .u64 a1_4) := (blk_cell BK431.out 4).trans rfl; have hcz93_5 : w92.cell? ⟨gb431, 5, none⟩ = some (.int .u64 a1_5) := (blk_cell BK431.out 5).trans rfl; have hcz93_6 : w92.cell? ⟨gb431, 6, none⟩ = some (.int .u64 a1_6) := (blk_cell BK431.out 6).trans rfl; have hcz93_7 : w92.cell? ⟨gb431, 7, none⟩ = some (.int .u64 a1_7) := (blk_cell BK431.out 7).trans rfl; have hcz93_8 : w92.cell? ⟨gb431, 8, none⟩ = some (.int .u64 a1_8) := (blk_cell BK431.out 8).trans rfl; have hfz93_0 := blk_frozen BK431.out 0; have hfz93_1 := blk_frozen BK431.out 1; have hfz93_2 := blk_frozen BK431.out 2; have hfz93_3 := blk_frozen BK431.out 3; have hfz93_4 := blk_frozen BK431.out 4; have hfz93_5 := blk_frozen BK431.out 5; have hfz93_6 := blk_frozen BK431.out 6; have hfz93_7 := blk_frozen BK431.out 7; have hfz93_8 := blk_frozen BK431.out 8) | (go_at_call 10; (with_reducible refine (vm_Run.calls k _ _ l0 a1_0 a1_1 a1_2 a1_3 a1_4 a1_5 a1_6 a1_7 a1_8 t433 t434 t435 _ ?side1 ?side2 A4.out).mono ?_); (case side1 => repeat (first | exact (Kd.C_below HR0.out HB.out) | (with_reducible refine Kd.C_alloc ?_ _) | (with_reducible refine Kd.C_drewN ?_ _) | (with_reducible refine Kd.C_drew ?_))); (case side2 => exact HC0.out); rintro e w94 ⟨rfl, hb⟩; have n0_ := Aside0.mk (blk_below (g := gb431) (o := .cells #[.int .u32 a1_0, .int .u32 a1_1, .int .u64 a1_2, .int .u64 a1_3, .int .u64 a1_4, .int .u64 a1_5, .int .u64 a1_6, .int .u64 a1_7, .int .u64 a1_8] 27 (0, 0)) (by (with_reducible repeat (first | refine blk_drewN ?_ _ | refine blk_drew ?_ | refine blk_alloc ?_ _)); exact BK431.out) hb); have n1_ := Aside0.mk (below_step (by repeat (first | (with_reducible first | exact HB.out | apply below_alloc | apply pw_below_drewN | apply below_drew1 | refine below_set ?_ GE431.out) | exact HB.out)) hb); clear BK431; clear HB; have BK431 := n0_; have HB := n1_; clear n0_ n1_; (try clear hb); (try clear hb2); (try clear hk); (try clear hi); have hcz95_0 : w94.cell? ⟨gb431, 0, none⟩ = some (.int .u32 a1_0) := (blk_cell BK431.out 0).trans rfl; have hcz95_1 : w94.cell? ⟨gb431, 1, none⟩ = some (.int .u32 a1_1) := (blk_cell BK431.out 1).trans rfl; have hcz95_2 : w94.cell? ⟨gb431, 2, none⟩ = some (.int .u64 a1_2) := (blk_cell BK431.out 2).trans rfl; have hcz95_3 : w94.cell? ⟨gb431, 3, none⟩ = some (.int .u64 a1_3) := (blk_cell BK431.out 3).trans rfl; have hcz95_4 : w94.cell? ⟨gb431, 4, none⟩ = some (.int .u64 a1_4) := (blk_cell BK431.out 4).trans rfl; have hcz95_5 : w94.cell? ⟨gb431, 5, none⟩ = some (.int .u64 a1_5) := (blk_cell BK431.out 5).trans rfl; have hcz95_6 : w94.cell? ⟨gb431, 6, none⟩ = some (.int .u64 a1_6) := (blk_cell BK431.out 6).trans rfl; have hcz95_7 : w94.cell? ⟨gb431, 7, none⟩ = some (.int .u64 a1_7) := (blk_cell BK431.out 7).trans rfl; have hcz95_8 : w94.cell? ⟨gb431, 8, none⟩ = some (.int .u64 a1_8) := (blk_cell BK431.out 8).trans rfl; have hfz95_0 := blk_frozen BK431.out 0; have hfz95_1 := blk_frozen BK431.out 1; have hfz95_2 := blk_frozen BK431.out 2; have hfz95_3 := blk_frozen BK431.out 3; have hfz95_4 := blk_frozen BK431.out 4; have hfz95_5 := blk_frozen BK431.out 5; have hfz95_6 := blk_frozen BK431.out 6; have hfz95_7 := blk_frozen BK431.out 7; have hfz95_8 := blk_frozen BK431.out 8) | (go_at_call 12; (with_reducible refine (vm_Trace.calls k _ _ l0 a1_0 a1_1 a1_2 a1_3 a1_4 a1_5 a1_6 a1_7 a1_8 t436 t439 _ ?side1 ?side2 A5.out).mono ?_); (case side1 => repeat (first | exact (Kd.C_below HR0.out HB.out) | (with_reducible refine Kd.C_alloc ?_ _) | (with_reducible refine Kd.C_drewN ?_ _) | (with_reducible refine Kd.C_drew ?_))); (case side2 => exact HC0.out); rintro e w96 ⟨v437, rfl, ho0, hb⟩; have n0_ := Aside0.mk (Kd.R_lower ho0 (below_size (by repeat (first | (with_reducible first | exact HB.out | apply below_alloc | apply pw_below_drewN | apply below_drew1 | refine below_set ?_ GE431.out) | exact HB.out)))); have n1_ := Aside0.mk (blk_below (g := gb431) (o := .cells #[.int .u32 a1_0, .int .u32 a1_1, .int .u64 a1_2, .int .u64 a1_3, .int .u64 a1_4, .int .u64 a1_5, .int .u64 a1_6, .int .u64 a1_7, .int .u64 a1_8] 27 (0, 0)) (by (with_reducible repeat (first | refine blk_drewN ?_ _ | refine blk_drew ?_ | refine blk_alloc ?_ _)); exact BK431.out) hb); have n2_ := Aside0.mk (below_step (by repeat (first | (with_reducible first | exact HB.out | apply below_alloc | apply pw_below_drewN | apply below_drew1 | refine below_set ?_ GE431.out) | exact HB.out)) hb); clear BK431; clear HB; have HO438 := n0_; have BK431 := n1_; have HB := n2_; clear n0_ n1_ n2_; (try clear hb); (try clear hb2); (try clear hk); (try clear hi); (try clear ho0)) | (go_at_call 15; (with_reducible refine (check_Check.calls k _ _ l0 t440 t441 _ ?side1 ?side2 A78.out).mono ?_); (case side1 => repeat (first | exact (Kd.C_below HR0.out HB.out) | (with_reducible refine Kd.C_alloc ?_ _) | (with_reducible refine Kd.C_drewN ?_ _) | (with_reducible refine Kd.C_drew ?_))); (case side2 => exact HC0.out); rintro e w97 ⟨rfl, hb⟩; have n0_ := Aside0.mk (Kd.R_below (by (with_reducible repeat (first | apply Kd.R_alloc | apply Kd.R_drewN | apply Kd.R_drew)); exact HO438.out) hb); have n1_ := Aside0.mk (blk_below (g := gb431) (o := .cells #[.int .u32 a1_0, .int .u32 a1_1, .int .u64 a1_2, .int .u64 a1_3, .int .u64 a1_4, .int .u64 a1_5, .int .u64 a1_6, .int .u64 a1_7, .int .u64 a1_8] 27 (0, 0)) (by (with_reducible repeat (first | refine blk_drewN ?_ _ | refine blk_drew ?_ | refine blk_alloc ?_ _)); exact BK431.out) hb); have n2_ := Aside0.mk (below_step (by repeat (first | (with_reducible first | exact HB.out | apply below_alloc | apply pw_below_drewN | apply below_drew1 | refine below_set ?_ GE431.out) | exact HB.out)) hb); clear HO438; clear BK431; clear HB; have HO438 := n0_; have BK431 := n1_; have HB := n2_; clear n0_ n1_ n2_; (try clear hb); (try clear hb2); (try clear hk); (try clear hi); obtain ⟨Ao98, co98, eo98⟩ := Kd.R_slice HO438.out; subst eo98))
       go_ret
       exact ⟨by first | rfl | (simp [errW_none, errW_some] <;> rfl) | (simp [*, errW_none, errW_some] <;> rfl), by repeat (first | (with_reducible first | exact HB.out | apply below_alloc | apply pw_below_drewN | apply below_drew1 | refine below_set ?_ GE431.out) | exact HB.out)⟩
     ·rw [if_neg c81] at H
      have c81b0 : (t434 == 0) = false := beq_eq_false_iff_ne.mpr c81
      have c81b1 : (t434 != 0) = true := bne_iff_ne.mpr c81
      obtain rfl := Option.some.inj H
      go_enter Try.func8, Try.ntmps8
      go_wp2_with (first | ((with_reducible refine gate_dst (N := 3) rfl ?_); (try (refine gate_guard (by rfl) ?_; dsimp only)); refine box_event ?hg (N := 3) ?hd (cs := #[.int .u32 a1_0, .int .u32 a1_1, .int .u64 a1_2, .int .u64 a1_3, .int .u64 a1_4, .int .u64 a1_5, .int .u64 a1_6, .int .u64 a1_7, .int .u64 a1_8]) (t := 27) ?hr ?_; (case hd => rfl); (case hg => rfl); (case hr => first | (go_simp; done) | (go_simp; rfl)); intro gb431 hg w99 hbox hb; have n0_ := Aside0.mk (below_step (by repeat (first | (with_reducible first | exact HB.out | apply below_alloc | apply pw_below_drewN | apply below_drew1) | exact HB.out)) hb); have n1_ := Aside0.mk (hbox); have n2_ := Aside0.mk ((by rw [hg]; exact (below_size (by repeat (first | (with_reducible first | exact HB.out | apply below_alloc | apply pw_below_drewN | apply below_drew1) | exact HB.out))) : w.heap.size ≤ gb431)); have n3_ := Aside0.mk ((by rw [hg]; exact (below_size (by repeat (first | (with_reducible first | exact HB.out | apply below_alloc | apply pw_below_drewN | apply below_drew1) | exact HB.out))) : w.heap.size ≤ gb431)); clear HB; have HB := n0_; have BK431 := n1_; have GW431 := n2_; have GE431 := n3_; clear n0_ n1_ n2_ n3_; clear hb hbox hg) | (go_at_call 9; (with_reducible refine (fairleadlaw06_awake.calls k  true _ A3.out).mono ?_); rintro e w100 ⟨rfl, hb⟩; have n0_ := Aside0.mk (blk_below (g := gb431) (o := .cells #[.int .u32 a1_0, .int .u32 a1_1, .int .u64 a1_2, .int .u64 a1_3, .int .u64 a1_4, .int .u64 a1_5, .int .u64 a1_6, .int .u64 a1_7, .int .u64 a1_8] 27 (0, 0)) (by (with_reducible repeat (first | refine blk_drewN ?_ _ | refine blk_drew ?_ | refine blk_alloc ?_ _)); exact BK431.out) hb); have n1_ := Aside0.mk (below_step (by repeat (first | (with_reducible first | exact HB.out | apply below_alloc | apply pw_below_drewN | apply below_drew1 | refine below_set ?_ GE431.out) | exact HB.out)) hb); clear BK431; clear HB; have BK431 := n0_; have HB := n1_; clear n0_ n1_; (try clear hb); (try clear hb2); (try clear hk); (try clear hi); have hcz101_0 : w100.cell? ⟨gb431, 0, none⟩ = some (.int .u32 a1_0) := (blk_cell BK431.out 0).trans rfl; have hcz101_1 : w100.cell? ⟨gb431, 1, none⟩ = some (.int .u32 a1_1) := (blk_cell BK431.out 1).trans rfl; have hcz101_2 : w100.cell? ⟨gb431, 2, none⟩ = some (.int .u64 a1_2) := (blk_cell BK431.out 2).trans rfl; have hcz101_3 : w100.cell? ⟨gb431, 3, none⟩ = some (.int .u64 a1_3) := (blk_cell BK431.out 3).trans rfl; have hcz101_4 : w100.cell? ⟨gb431, 4, none⟩ = some (.int .u64 a1_4) := (blk_cell BK431.out 4).trans rfl; have hcz101_5 : w100.cell? ⟨gb431, 5, none⟩ = some (.int .u64 a1_5) := (blk_cell BK431.out 5).trans rfl; have hcz101_6 : w100.cell? ⟨gb431, 6, none⟩ = some (.int .u64 a1_6) := (blk_cell BK431.out 6).trans rfl; have hcz101_7 : w100.cell? ⟨gb431, 7, none⟩ = some (.int .u64 a1_7) := (blk_cell BK431.out 7).trans rfl; have hcz101_8 : w100.cell? ⟨gb431, 8, none⟩ = some (.int .u64 a1_8) := (blk_cell BK431.out 8).trans rfl; have hfz101_0 := blk_frozen BK431.out 0; have hfz101_1 := blk_frozen BK431.out 1; have hfz101_2 := blk_frozen BK431.out 2; have hfz101_3 := blk_frozen BK431.out 3; have hfz101_4 := blk_frozen BK431.out 4; have hfz101_5 := blk_frozen BK431.out 5; have hfz101_6 := blk_frozen BK431.out 6; have hfz101_7 := blk_frozen BK431.out 7; have hfz101_8 := blk_frozen BK431.out 8) | (go_at_call 10; (with_reducible refine (vm_Run.calls k _ _ l0 a1_0 a1_1 a1_2 a1_3 a1_4 a1_5 a1_6 a1_7 a1_8 t433 t434 t435 _ ?side1 ?side2 A4.out).mono ?_); (case side1 => repeat (first | exact (Kd.C_below HR0.out HB.out) | (with_reducible refine Kd.C_alloc ?_ _) | (with_reducible refine Kd.C_drewN ?_ _) | (with_reducible refine Kd.C_drew ?_))); (case side2 => exact HC0.out); rintro e w102 ⟨rfl, hb⟩; have n0_ := Aside0.mk (blk_below (g := gb431) (o := .cells #[.int .u32 a1_0, .int .u32 a1_1, .int .u64 a1_2, .int .u64 a1_3, .int .u64 a1_4, .int .u64 a1_5, .int .u64 a1_6, .int .u64 a1_7, .int .u64 a1_8] 27 (0, 0)) (by (with_reducible repeat (first | refine blk_drewN ?_ _ | refine blk_drew ?_ | refine blk_alloc ?_ _)); exact BK431.out) hb); have n1_ := Aside0.mk (below_step (by repeat (first | (with_reducible first | exact HB.out | apply below_alloc | apply pw_below_drewN | apply below_drew1 | refine below_set ?_ GE431.out) | exact HB.out)) hb); clear BK431; clear HB; have BK431 := n0_; have HB := n1_; clear n0_ n1_; (try clear hb); (try clear hb2); (try clear hk); (try clear hi); have hcz103_0 : w102.cell? ⟨gb431, 0, none⟩ = some (.int .u32 a1_0) := (blk_cell BK431.out 0).trans rfl; have hcz103_1 : w102.cell? ⟨gb431, 1, none⟩ = some (.int .u32 a1_1) := (blk_cell BK431.out 1).trans rfl; have hcz103_2 : w102.cell? ⟨gb431, 2, none⟩ = some (.int .u64 a1_2) := (blk_cell BK431.out 2).trans rfl; have hcz103_3 : w102.cell? ⟨gb431, 3, none⟩ = some (.int .u64 a1_3) := (blk_cell BK431.out 3).trans rfl; have hcz103_4 : w102.cell? ⟨gb431, 4, none⟩ = some (.int .u64 a1_4) := (blk_cell BK431.out 4).trans rfl; have hcz103_5 : w102.cell? ⟨gb431, 5, none⟩ = some (.int .u64 a1_5) := (blk_cell BK431.out 5).trans rfl; have hcz103_6 : w102.cell? ⟨gb431, 6, none⟩ = some (.int .u64 a1_6) := (blk_cell BK431.out 6).trans rfl; have hcz103_7 : w102.cell? ⟨gb431, 7, none⟩ = some (.int .u64 a1_7) := (blk_cell BK431.out 7).trans rfl; have hcz103_8 : w102.cell? ⟨gb431, 8, none⟩ = some (.int .u64 a1_8) := (blk_cell BK431.out 8).trans rfl; have hfz103_0 := blk_frozen BK431.out 0; have hfz103_1 := blk_frozen BK431.out 1; have hfz103_2 := blk_frozen BK431.out 2; have hfz103_3 := blk_frozen BK431.out 3; have hfz103_4 := blk_frozen BK431.out 4; have hfz103_5 := blk_frozen BK431.out 5; have hfz103_6 := blk_frozen BK431.out 6; have hfz103_7 := blk_frozen BK431.out 7; have hfz103_8 := blk_frozen BK431.out 8) | (go_at_call 12; (with_reducible refine (vm_Trace.calls k _ _ l0 a1_0 a1_1 a1_2 a1_3 a1_4 a1_5 a1_6 a1_7 a1_8 t436 t439 _ ?side1 ?side2 A5.out).mono ?_); (case side1 => repeat (first | exact (Kd.C_below HR0.out HB.out) | (with_reducible refine Kd.C_alloc ?_ _) | (with_reducible refine Kd.C_drewN ?_ _) | (with_reducible refine Kd.C_drew ?_))); (case side2 => exact HC0.out); rintro e w104 ⟨v437, rfl, ho0, hb⟩; have n0_ := Aside0.mk (Kd.R_lower ho0 (below_size (by repeat (first | (with_reducible first | exact HB.out | apply below_alloc | apply pw_below_drewN | apply below_drew1 | refine below_set ?_ GE431.out) | exact HB.out)))); have n1_ := Aside0.mk (blk_below (g := gb431) (o := .cells #[.int .u32 a1_0, .int .u32 a1_1, .int .u64 a1_2, .int .u64 a1_3, .int .u64 a1_4, .int .u64 a1_5, .int .u64 a1_6, .int .u64 a1_7, .int .u64 a1_8] 27 (0, 0)) (by (with_reducible repeat (first | refine blk_drewN ?_ _ | refine blk_drew ?_ | refine blk_alloc ?_ _)); exact BK431.out) hb); have n2_ := Aside0.mk (below_step (by repeat (first | (with_reducible first | exact HB.out | apply below_alloc | apply pw_below_drewN | apply below_drew1 | refine below_set ?_ GE431.out) | exact HB.out)) hb); clear BK431; clear HB; have HO438 := n0_; have BK431 := n1_; have HB := n2_; clear n0_ n1_ n2_; (try clear hb); (try clear hb2); (try clear hk); (try clear hi); (try clear ho0)) | (go_at_call 15; (with_reducible refine (check_Check.calls k _ _ l0 t440 t441 _ ?side1 ?side2 A78.out).mono ?_); (case side1 => repeat (first | exact (Kd.C_below HR0.out HB.out) | (with_reducible refine Kd.C_alloc ?_ _) | (with_reducible refine Kd.C_drewN ?_ _) | (with_reducible refine Kd.C_drew ?_))); (case side2 => exact HC0.out); rintro e w105 ⟨rfl, hb⟩; have n0_ := Aside0.mk (Kd.R_below (by (with_reducible repeat (first | apply Kd.R_alloc | apply Kd.R_drewN | apply Kd.R_drew)); exact HO438.out) hb); have n1_ := Aside0.mk (blk_below (g := gb431) (o := .cells #[.int .u32 a1_0, .int .u32 a1_1, .int .u64 a1_2, .int .u64 a1_3, .int .u64 a1_4, .int .u64 a1_5, .int .u64 a1_6, .int .u64 a1_7, .int .u64 a1_8] 27 (0, 0)) (by (with_reducible repeat (first | refine blk_drewN ?_ _ | refine blk_drew ?_ | refine blk_alloc ?_ _)); exact BK431.out) hb); have n2_ := Aside0.mk (below_step (by repeat (first | (with_reducible first | exact HB.out | apply below_alloc | apply pw_below_drewN | apply below_drew1 | refine below_set ?_ GE431.out) | exact HB.out)) hb); clear HO438; clear BK431; clear HB; have HO438 := n0_; have BK431 := n1_; have HB := n2_; clear n0_ n1_ n2_; (try clear hb); (try clear hb2); (try clear hk); (try clear hi)))
      go_ret
      exact ⟨by first | rfl | (simp [errW_none, errW_some] <;> rfl) | (simp [*, errW_none, errW_some] <;> rfl), by repeat (first | (with_reducible first | exact HB.out | apply below_alloc | apply pw_below_drewN | apply below_drew1 | refine below_set ?_ GE431.out) | exact HB.out)⟩
    ·rw [if_neg c80] at H
     have c80b0 : (t433 == 0) = false := beq_eq_false_iff_ne.mpr c80
     have c80b1 : (t433 != 0) = true := bne_iff_ne.mpr c80
     obtain rfl := Option.some.inj H
     go_enter Try.func8, Try.ntmps8
     go_wp2_with (first | ((with_reducible refine gate_dst (N := 3) rfl ?_); (try (refine gate_guard (by rfl) ?_; dsimp only)); refine box_event ?hg (N := 3) ?hd (cs := #[.int .u32 a1_0, .int .u32 a1_1, .int .u64 a1_2, .int .u64 a1_3, .int .u64 a1_4, .int .u64 a1_5, .int .u64 a1_6, .int .u64 a1_7, .int .u64 a1_8]) (t := 27) ?hr ?_; (case hd => rfl); (case hg => rfl); (case hr => first | (go_simp; done) | (go_simp; rfl)); intro gb431 hg w106 hbox hb; have n0_ := Aside0.mk (below_step (by repeat (first | (with_reducible first | exact HB.out | apply below_alloc | apply pw_below_drewN | apply below_drew1) | exact HB.out)) hb); have n1_ := Aside0.mk (hbox); have n2_ := Aside0.mk ((by rw [hg]; exact (below_size (by repeat (first | (with_reducible first | exact HB.out | apply below_alloc | apply pw_below_drewN | apply below_drew1) | exact HB.out))) : w.heap.size ≤ gb431)); have n3_ := Aside0.mk ((by rw [hg]; exact (below_size (by repeat (first | (with_reducible first | exact HB.out | apply below_alloc | apply pw_below_drewN | apply below_drew1) | exact HB.out))) : w.heap.size ≤ gb431)); clear HB; have HB := n0_; have BK431 := n1_; have GW431 := n2_; have GE431 := n3_; clear n0_ n1_ n2_ n3_; clear hb hbox hg) | (go_at_call 9; (with_reducible refine (fairleadlaw06_awake.calls k  true _ A3.out).mono ?_); rintro e w107 ⟨rfl, hb⟩; have n0_ := Aside0.mk (blk_below (g := gb431) (o := .cells #[.int .u32 a1_0, .int .u32 a1_1, .int .u64 a1_2, .int .u64 a1_3, .int .u64 a1_4, .int .u64 a1_5, .int .u64 a1_6, .int .u64 a1_7, .int .u64 a1_8] 27 (0, 0)) (by (with_reducible repeat (first | refine blk_drewN ?_ _ | refine blk_drew ?_ | refine blk_alloc ?_ _)); exact BK431.out) hb); have n1_ := Aside0.mk (below_step (by repeat (first | (with_reducible first | exact HB.out | apply below_alloc | apply pw_below_drewN | apply below_drew1 | refine below_set ?_ GE431.out) | exact HB.out)) hb); clear BK431; clear HB; have BK431 := n0_; have HB := n1_; clear n0_ n1_; (try clear hb); (try clear hb2); (try clear hk); (try clear hi); have hcz108_0 : w107.cell? ⟨gb431, 0, none⟩ = some (.int .u32 a1_0) := (blk_cell BK431.out 0).trans rfl; have hcz108_1 : w107.cell? ⟨gb431, 1, none⟩ = some (.int .u32 a1_1) := (blk_cell BK431.out 1).trans rfl; have hcz108_2 : w107.cell? ⟨gb431, 2, none⟩ = some (.int .u64 a1_2) := (blk_cell BK431.out 2).trans rfl; have hcz108_3 : w107.cell? ⟨gb431, 3, none⟩ = some (.int .u64 a1_3) := (blk_cell BK431.out 3).trans rfl; have hcz108_4 : w107.cell? ⟨gb431, 4, none⟩ = some (.int .u64 a1_4) := (blk_cell BK431.out 4).trans rfl; have hcz108_5 : w107.cell? ⟨gb431, 5, none⟩ = some (.int .u64 a1_5) := (blk_cell BK431.out 5).trans rfl; have hcz108_6 : w107.cell? ⟨gb431, 6, none⟩ = some (.int .u64 a1_6) := (blk_cell BK431.out 6).trans rfl; have hcz108_7 : w107.cell? ⟨gb431, 7, none⟩ = some (.int .u64 a1_7) := (blk_cell BK431.out 7).trans rfl; have hcz108_8 : w107.cell? ⟨gb431, 8, none⟩ = some (.int .u64 a1_8) := (blk_cell BK431.out 8).trans rfl; have hfz108_0 := blk_frozen BK431.out 0; have hfz108_1 := blk_frozen BK431.out 1; have hfz108_2 := blk_frozen BK431.out 2; have hfz108_3 := blk_frozen BK431.out 3; have hfz108_4 := blk_frozen BK431.out 4; have hfz108_5 := blk_frozen BK431.out 5; have hfz108_6 := blk_frozen BK431.out 6; have hfz108_7 := blk_frozen BK431.out 7; have hfz108_8 := blk_frozen BK431.out 8) | (go_at_call 10; (with_reducible refine (vm_Run.calls k _ _ l0 a1_0 a1_1 a1_2 a1_3 a1_4 a1_5 a1_6 a1_7 a1_8 t433 t434 t435 _ ?side1 ?side2 A4.out).mono ?_); (case side1 => repeat (first | exact (Kd.C_below HR0.out HB.out) | (with_reducible refine Kd.C_alloc ?_ _) | (with_reducible refine Kd.C_drewN ?_ _) | (with_reducible refine Kd.C_drew ?_))); (case side2 => exact HC0.out); rintro e w109 ⟨rfl, hb⟩; have n0_ := Aside0.mk (blk_below (g := gb431) (o := .cells #[.int .u32 a1_0, .int .u32 a1_1, .int .u64 a1_2, .int .u64 a1_3, .int .u64 a1_4, .int .u64 a1_5, .int .u64 a1_6, .int .u64 a1_7, .int .u64 a1_8] 27 (0, 0)) (by (with_reducible repeat (first | refine blk_drewN ?_ _ | refine blk_drew ?_ | refine blk_alloc ?_ _)); exact BK431.out) hb); have n1_ := Aside0.mk (below_step (by repeat (first | (with_reducible first | exact HB.out | apply below_alloc | apply pw_below_drewN | apply below_drew1 | refine below_set ?_ GE431.out) | exact HB.out)) hb); clear BK431; clear HB; have BK431 := n0_; have HB := n1_; clear n0_ n1_; (try clear hb); (try clear hb2); (try clear hk); (try clear hi); have hcz110_0 : w109.cell? ⟨gb431, 0, none⟩ = some (.int .u32 a1_0) := (blk_cell BK431.out 0).trans rfl; have hcz110_1 : w109.cell? ⟨gb431, 1, none⟩ = some (.int .u32 a1_1) := (blk_cell BK431.out 1).trans rfl; have hcz110_2 : w109.cell? ⟨gb431, 2, none⟩ = some (.int .u64 a1_2) := (blk_cell BK431.out 2).trans rfl; have hcz110_3 : w109.cell? ⟨gb431, 3, none⟩ = some (.int .u64 a1_3) := (blk_cell BK431.out 3).trans rfl; have hcz110_4 : w109.cell? ⟨gb431, 4, none⟩ = some (.int .u64 a1_4) := (blk_cell BK431.out 4).trans rfl; have hcz110_5 : w109.cell? ⟨gb431, 5, none⟩ = some (.int .u64 a1_5) := (blk_cell BK431.out 5).trans rfl; have hcz110_6 : w109.cell? ⟨gb431, 6, none⟩ = some (.int .u64 a1_6) := (blk_cell BK431.out 6).trans rfl; have hcz110_7 : w109.cell? ⟨gb431, 7, none⟩ = some (.int .u64 a1_7) := (blk_cell BK431.out 7).trans rfl; have hcz110_8 : w109.cell? ⟨gb431, 8, none⟩ = some (.int .u64 a1_8) := (blk_cell BK431.out 8).trans rfl; have hfz110_0 := blk_frozen BK431.out 0; have hfz110_1 := blk_frozen BK431.out 1; have hfz110_2 := blk_frozen BK431.out 2; have hfz110_3 := blk_frozen BK431.out 3; have hfz110_4 := blk_frozen BK431.out 4; have hfz110_5 := blk_frozen BK431.out 5; have hfz110_6 := blk_frozen BK431.out 6; have hfz110_7 := blk_frozen BK431.out 7; have hfz110_8 := blk_frozen BK431.out 8) | (go_at_call 12; (with_reducible refine (vm_Trace.calls k _ _ l0 a1_0 a1_1 a1_2 a1_3 a1_4 a1_5 a1_6 a1_7 a1_8 t436 t439 _ ?side1 ?side2 A5.out).mono ?_); (case side1 => repeat (first | exact (Kd.C_below HR0.out HB.out) | (with_reducible refine Kd.C_alloc ?_ _) | (with_reducible refine Kd.C_drewN ?_ _) | (with_reducible refine Kd.C_drew ?_))); (case side2 => exact HC0.out); rintro e w111 ⟨v437, rfl, ho0, hb⟩; have n0_ := Aside0.mk (Kd.R_lower ho0 (below_size (by repeat (first | (with_reducible first | exact HB.out | apply below_alloc | apply pw_below_drewN | apply below_drew1 | refine below_set ?_ GE431.out) | exact HB.out)))); have n1_ := Aside0.mk (blk_below (g := gb431) (o := .cells #[.int .u32 a1_0, .int .u32 a1_1, .int .u64 a1_2, .int .u64 a1_3, .int .u64 a1_4, .int .u64 a1_5, .int .u64 a1_6, .int .u64 a1_7, .int .u64 a1_8] 27 (0, 0)) (by (with_reducible repeat (first | refine blk_drewN ?_ _ | refine blk_drew ?_ | refine blk_alloc ?_ _)); exact BK431.out) hb); have n2_ := Aside0.mk (below_step (by repeat (first | (with_reducible first | exact HB.out | apply below_alloc | apply pw_below_drewN | apply below_drew1 | refine below_set ?_ GE431.out) | exact HB.out)) hb); clear BK431; clear HB; have HO438 := n0_; have BK431 := n1_; have HB := n2_; clear n0_ n1_ n2_; (try clear hb); (try clear hb2); (try clear hk); (try clear hi); (try clear ho0)) | (go_at_call 15; (with_reducible refine (check_Check.calls k _ _ l0 t440 t441 _ ?side1 ?side2 A78.out).mono ?_); (case side1 => repeat (first | exact (Kd.C_below HR0.out HB.out) | (with_reducible refine Kd.C_alloc ?_ _) | (with_reducible refine Kd.C_drewN ?_ _) | (with_reducible refine Kd.C_drew ?_))); (case side2 => exact HC0.out); rintro e w112 ⟨rfl, hb⟩; have n0_ := Aside0.mk (Kd.R_below (by (with_reducible repeat (first | apply Kd.R_alloc | apply Kd.R_drewN | apply Kd.R_drew)); exact HO438.out) hb); have n1_ := Aside0.mk (blk_below (g := gb431) (o := .cells #[.int .u32 a1_0, .int .u32 a1_1, .int .u64 a1_2, .int .u64 a1_3, .int .u64 a1_4, .int .u64 a1_5, .int .u64 a1_6, .int .u64 a1_7, .int .u64 a1_8] 27 (0, 0)) (by (with_reducible repeat (first | refine blk_drewN ?_ _ | refine blk_drew ?_ | refine blk_alloc ?_ _)); exact BK431.out) hb); have n2_ := Aside0.mk (below_step (by repeat (first | (with_reducible first | exact HB.out | apply below_alloc | apply pw_below_drewN | apply below_drew1 | refine below_set ?_ GE431.out) | exact HB.out)) hb); clear HO438; clear BK431; clear HB; have HO438 := n0_; have BK431 := n1_; have HB := n2_; clear n0_ n1_ n2_; (try clear hb); (try clear hb2); (try clear hk); (try clear hi)))
     go_ret
     exact ⟨by first | rfl | (simp [errW_none, errW_some] <;> rfl) | (simp [*, errW_none, errW_some] <;> rfl), by repeat (first | (with_reducible first | exact HB.out | apply below_alloc | apply pw_below_drewN | apply below_drew1 | refine below_set ?_ GE431.out) | exact HB.out)⟩
   ·replace c79 := Bool.eq_false_iff.mpr c79
    subst c79
    have H1 : (some false) = some r := by rw [if_neg (show ¬ (false = true) by decide)] at H; exact H
    clear H
    have H := H1
    clear H1
    obtain rfl := Option.some.inj H
    go_enter Try.func8, Try.ntmps8
    go_wp2_with (first | ((with_reducible refine gate_dst (N := 3) rfl ?_); (try (refine gate_guard (by rfl) ?_; dsimp only)); refine box_event ?hg (N := 3) ?hd (cs := #[.int .u32 a1_0, .int .u32 a1_1, .int .u64 a1_2, .int .u64 a1_3, .int .u64 a1_4, .int .u64 a1_5, .int .u64 a1_6, .int .u64 a1_7, .int .u64 a1_8]) (t := 27) ?hr ?_; (case hd => rfl); (case hg => rfl); (case hr => first | (go_simp; done) | (go_simp; rfl)); intro gb431 hg w113 hbox hb; have n0_ := Aside0.mk (below_step (by repeat (first | (with_reducible first | exact HB.out | apply below_alloc | apply pw_below_drewN | apply below_drew1) | exact HB.out)) hb); have n1_ := Aside0.mk (hbox); have n2_ := Aside0.mk ((by rw [hg]; exact (below_size (by repeat (first | (with_reducible first | exact HB.out | apply below_alloc | apply pw_below_drewN | apply below_drew1) | exact HB.out))) : w.heap.size ≤ gb431)); have n3_ := Aside0.mk ((by rw [hg]; exact (below_size (by repeat (first | (with_reducible first | exact HB.out | apply below_alloc | apply pw_below_drewN | apply below_drew1) | exact HB.out))) : w.heap.size ≤ gb431)); clear HB; have HB := n0_; have BK431 := n1_; have GW431 := n2_; have GE431 := n3_; clear n0_ n1_ n2_ n3_; clear hb hbox hg) | (go_at_call 9; (with_reducible refine (fairleadlaw06_awake.calls k  false _ A3.out).mono ?_); rintro e w114 ⟨rfl, hb⟩; have n0_ := Aside0.mk (blk_below (g := gb431) (o := .cells #[.int .u32 a1_0, .int .u32 a1_1, .int .u64 a1_2, .int .u64 a1_3, .int .u64 a1_4, .int .u64 a1_5, .int .u64 a1_6, .int .u64 a1_7, .int .u64 a1_8] 27 (0, 0)) (by (with_reducible repeat (first | refine blk_drewN ?_ _ | refine blk_drew ?_ | refine blk_alloc ?_ _)); exact BK431.out) hb); have n1_ := Aside0.mk (below_step (by repeat (first | (with_reducible first | exact HB.out | apply below_alloc | apply pw_below_drewN | apply below_drew1 | refine below_set ?_ GE431.out) | exact HB.out)) hb); clear BK431; clear HB; have BK431 := n0_; have HB := n1_; clear n0_ n1_; (try clear hb); (try clear hb2); (try clear hk); (try clear hi); have hcz115_0 : w114.cell? ⟨gb431, 0, none⟩ = some (.int .u32 a1_0) := (blk_cell BK431.out 0).trans rfl; have hcz115_1 : w114.cell? ⟨gb431, 1, none⟩ = some (.int .u32 a1_1) := (blk_cell BK431.out 1).trans rfl; have hcz115_2 : w114.cell? ⟨gb431, 2, none⟩ = some (.int .u64 a1_2) := (blk_cell BK431.out 2).trans rfl; have hcz115_3 : w114.cell? ⟨gb431, 3, none⟩ = some (.int .u64 a1_3) := (blk_cell BK431.out 3).trans rfl; have hcz115_4 : w114.cell? ⟨gb431, 4, none⟩ = some (.int .u64 a1_4) := (blk_cell BK431.out 4).trans rfl; have hcz115_5 : w114.cell? ⟨gb431, 5, none⟩ = some (.int .u64 a1_5) := (blk_cell BK431.out 5).trans rfl; have hcz115_6 : w114.cell? ⟨gb431, 6, none⟩ = some (.int .u64 a1_6) := (blk_cell BK431.out 6).trans rfl; have hcz115_7 : w114.cell? ⟨gb431, 7, none⟩ = some (.int .u64 a1_7) := (blk_cell BK431.out 7).trans rfl; have hcz115_8 : w114.cell? ⟨gb431, 8, none⟩ = some (.int .u64 a1_8) := (blk_cell BK431.out 8).trans rfl; have hfz115_0 := blk_frozen BK431.out 0; have hfz115_1 := blk_frozen BK431.out 1; have hfz115_2 := blk_frozen BK431.out 2; have hfz115_3 := blk_frozen BK431.out 3; have hfz115_4 := blk_frozen BK431.out 4; have hfz115_5 := blk_frozen BK431.out 5; have hfz115_6 := blk_frozen BK431.out 6; have hfz115_7 := blk_frozen BK431.out 7; have hfz115_8 := blk_frozen BK431.out 8) | (go_at_call 10; (with_reducible refine (vm_Run.calls k _ _ l0 a1_0 a1_1 a1_2 a1_3 a1_4 a1_5 a1_6 a1_7 a1_8 t433 t434 t435 _ ?side1 ?side2 A4.out).mono ?_); (case side1 => repeat (first | exact (Kd.C_below HR0.out HB.out) | (with_reducible refine Kd.C_alloc ?_ _) | (with_reducible refine Kd.C_drewN ?_ _) | (with_reducible refine Kd.C_drew ?_))); (case side2 => exact HC0.out); rintro e w116 ⟨rfl, hb⟩; have n0_ := Aside0.mk (blk_below (g := gb431) (o := .cells #[.int .u32 a1_0, .int .u32 a1_1, .int .u64 a1_2, .int .u64 a1_3, .int .u64 a1_4, .int .u64 a1_5, .int .u64 a1_6, .int .u64 a1_7, .int .u64 a1_8] 27 (0, 0)) (by (with_reducible repeat (first | refine blk_drewN ?_ _ | refine blk_drew ?_ | refine blk_alloc ?_ _)); exact BK431.out) hb); have n1_ := Aside0.mk (below_step (by repeat (first | (with_reducible first | exact HB.out | apply below_alloc | apply pw_below_drewN | apply below_drew1 | refine below_set ?_ GE431.out) | exact HB.out)) hb); clear BK431; clear HB; have BK431 := n0_; have HB := n1_; clear n0_ n1_; (try clear hb); (try clear hb2); (try clear hk); (try clear hi); have hcz117_0 : w116.cell? ⟨gb431, 0, none⟩ = some (.int .u32 a1_0) := (blk_cell BK431.out 0).trans rfl; have hcz117_1 : w116.cell? ⟨gb431, 1, none⟩ = some (.int .u32 a1_1) := (blk_cell BK431.out 1).trans rfl; have hcz117_2 : w116.cell? ⟨gb431, 2, none⟩ = some (.int .u64 a1_2) := (blk_cell BK431.out 2).trans rfl; have hcz117_3 : w116.cell? ⟨gb431, 3, none⟩ = some (.int .u64 a1_3) := (blk_cell BK431.out 3).trans rfl; have hcz117_4 : w116.cell? ⟨gb431, 4, none⟩ = some (.int .u64 a1_4) := (blk_cell BK431.out 4).trans rfl; have hcz117_5 : w116.cell? ⟨gb431, 5, none⟩ = some (.int .u64 a1_5) := (blk_cell BK431.out 5).trans rfl; have hcz117_6 : w116.cell? ⟨gb431, 6, none⟩ = some (.int .u64 a1_6) := (blk_cell BK431.out 6).trans rfl; have hcz117_7 : w116.cell? ⟨gb431, 7, none⟩ = some (.int .u64 a1_7) := (blk_cell BK431.out 7).trans rfl; have hcz117_8 : w116.cell? ⟨gb431, 8, none⟩ = some (.int .u64 a1_8) := (blk_cell BK431.out 8).trans rfl; have hfz117_0 := blk_frozen BK431.out 0; have hfz117_1 := blk_frozen BK431.out 1; have hfz117_2 := blk_frozen BK431.out 2; have hfz117_3 := blk_frozen BK431.out 3; have hfz117_4 := blk_frozen BK431.out 4; have hfz117_5 := blk_frozen BK431.out 5; have hfz117_6 := blk_frozen BK431.out 6; have hfz117_7 := blk_frozen BK431.out 7; have hfz117_8 := blk_frozen BK431.out 8) | (go_at_call 12; (with_reducible refine (vm_Trace.calls k _ _ l0 a1_0 a1_1 a1_2 a1_3 a1_4 a1_5 a1_6 a1_7 a1_8 t436 t439 _ ?side1 ?side2 A5.out).mono ?_); (case side1 => repeat (first | exact (Kd.C_below HR0.out HB.out) | (with_reducible refine Kd.C_alloc ?_ _) | (with_reducible refine Kd.C_drewN ?_ _) | (with_reducible refine Kd.C_drew ?_))); (case side2 => exact HC0.out); rintro e w118 ⟨v437, rfl, ho0, hb⟩; have n0_ := Aside0.mk (Kd.R_lower ho0 (below_size (by repeat (first | (with_reducible first | exact HB.out | apply below_alloc | apply pw_below_drewN | apply below_drew1 | refine below_set ?_ GE431.out) | exact HB.out)))); have n1_ := Aside0.mk (blk_below (g := gb431) (o := .cells #[.int .u32 a1_0, .int .u32 a1_1, .int .u64 a1_2, .int .u64 a1_3, .int .u64 a1_4, .int .u64 a1_5, .int .u64 a1_6, .int .u64 a1_7, .int .u64 a1_8] 27 (0, 0)) (by (with_reducible repeat (first | refine blk_drewN ?_ _ | refine blk_drew ?_ | refine blk_alloc ?_ _)); exact BK431.out) hb); have n2_ := Aside0.mk (below_step (by repeat (first | (with_reducible first | exact HB.out | apply below_alloc | apply pw_below_drewN | apply below_drew1 | refine below_set ?_ GE431.out) | exact HB.out)) hb); clear BK431; clear HB; have HO438 := n0_; have BK431 := n1_; have HB := n2_; clear n0_ n1_ n2_; (try clear hb); (try clear hb2); (try clear hk); (try clear hi); (try clear ho0)) | (go_at_call 15; (with_reducible refine (check_Check.calls k _ _ l0 t440 t441 _ ?side1 ?side2 A78.out).mono ?_); (case side1 => repeat (first | exact (Kd.C_below HR0.out HB.out) | (with_reducible refine Kd.C_alloc ?_ _) | (with_reducible refine Kd.C_drewN ?_ _) | (with_reducible refine Kd.C_drew ?_))); (case side2 => exact HC0.out); rintro e w119 ⟨rfl, hb⟩; have n0_ := Aside0.mk (Kd.R_below (by (with_reducible repeat (first | apply Kd.R_alloc | apply Kd.R_drewN | apply Kd.R_drew)); exact HO438.out) hb); have n1_ := Aside0.mk (blk_below (g := gb431) (o := .cells #[.int .u32 a1_0, .int .u32 a1_1, .int .u64 a1_2, .int .u64 a1_3, .int .u64 a1_4, .int .u64 a1_5, .int .u64 a1_6, .int .u64 a1_7, .int .u64 a1_8] 27 (0, 0)) (by (with_reducible repeat (first | refine blk_drewN ?_ _ | refine blk_drew ?_ | refine blk_alloc ?_ _)); exact BK431.out) hb); have n2_ := Aside0.mk (below_step (by repeat (first | (with_reducible first | exact HB.out | apply below_alloc | apply pw_below_drewN | apply below_drew1 | refine below_set ?_ GE431.out) | exact HB.out)) hb); clear HO438; clear BK431; clear HB; have HO438 := n0_; have BK431 := n1_; have HB := n2_; clear n0_ n1_ n2_; (try clear hb); (try clear hb2); (try clear hk); (try clear hi)))
    go_ret
    exact ⟨by first | rfl | (simp [errW_none, errW_some] <;> rfl) | (simp [*, errW_none, errW_some] <;> rfl), by repeat (first | (with_reducible first | exact HB.out | apply below_alloc | apply pw_below_drewN | apply below_drew1 | refine below_set ?_ GE431.out) | exact HB.out)⟩
 ·rw [if_neg c6] at H
  have c6b0 : (t435 == t439) = false := beq_eq_false_iff_ne.mpr c6
  have c6b1 : (t435 != t439) = true := bne_iff_ne.mpr c6
  obtain rfl := Option.some.inj H
  go_enter Try.func8, Try.ntmps8
  go_wp2_with (first | ((with_reducible refine gate_dst (N := 3) rfl ?_); (try (refine gate_guard (by rfl) ?_; dsimp only)); refine box_event ?hg (N := 3) ?hd (cs := #[.int .u32 a1_0, .int .u32 a1_1, .int .u64 a1_2, .int .u64 a1_3, .int .u64 a1_4, .int .u64 a1_5, .int .u64 a1_6, .int .u64 a1_7, .int .u64 a1_8]) (t := 27) ?hr ?_; (case hd => rfl); (case hg => rfl); (case hr => first | (go_simp; done) | (go_simp; rfl)); intro gb431 hg w120 hbox hb; have n0_ := Aside0.mk (below_step (by repeat (first | (with_reducible first | exact HB.out | apply below_alloc | apply pw_below_drewN | apply below_drew1) | exact HB.out)) hb); have n1_ := Aside0.mk (hbox); have n2_ := Aside0.mk ((by rw [hg]; exact (below_size (by repeat (first | (with_reducible first | exact HB.out | apply below_alloc | apply pw_below_drewN | apply below_drew1) | exact HB.out))) : w.heap.size ≤ gb431)); have n3_ := Aside0.mk ((by rw [hg]; exact (below_size (by repeat (first | (with_reducible first | exact HB.out | apply below_alloc | apply pw_below_drewN | apply below_drew1) | exact HB.out))) : w.heap.size ≤ gb431)); clear HB; have HB := n0_; have BK431 := n1_; have GW431 := n2_; have GE431 := n3_; clear n0_ n1_ n2_ n3_; clear hb hbox hg) | (go_at_call 9; (with_reducible refine (fairleadlaw06_awake.calls k  t432 _ A3.out).mono ?_); rintro e w121 ⟨rfl, hb⟩; have n0_ := Aside0.mk (blk_below (g := gb431) (o := .cells #[.int .u32 a1_0, .int .u32 a1_1, .int .u64 a1_2, .int .u64 a1_3, .int .u64 a1_4, .int .u64 a1_5, .int .u64 a1_6, .int .u64 a1_7, .int .u64 a1_8] 27 (0, 0)) (by (with_reducible repeat (first | refine blk_drewN ?_ _ | refine blk_drew ?_ | refine blk_alloc ?_ _)); exact BK431.out) hb); have n1_ := Aside0.mk (below_step (by repeat (first | (with_reducible first | exact HB.out | apply below_alloc | apply pw_below_drewN | apply below_drew1 | refine below_set ?_ GE431.out) | exact HB.out)) hb); clear BK431; clear HB; have BK431 := n0_; have HB := n1_; clear n0_ n1_; (try clear hb); (try clear hb2); (try clear hk); (try clear hi); have hcz122_0 : w121.cell? ⟨gb431, 0, none⟩ = some (.int .u32 a1_0) := (blk_cell BK431.out 0).trans rfl; have hcz122_1 : w121.cell? ⟨gb431, 1, none⟩ = some (.int .u32 a1_1) := (blk_cell BK431.out 1).trans rfl; have hcz122_2 : w121.cell? ⟨gb431, 2, none⟩ = some (.int .u64 a1_2) := (blk_cell BK431.out 2).trans rfl; have hcz122_3 : w121.cell? ⟨gb431, 3, none⟩ = some (.int .u64 a1_3) := (blk_cell BK431.out 3).trans rfl; have hcz122_4 : w121.cell? ⟨gb431, 4, none⟩ = some (.int .u64 a1_4) := (blk_cell BK431.out 4).trans rfl; have hcz122_5 : w121.cell? ⟨gb431, 5, none⟩ = some (.int .u64 a1_5) := (blk_cell BK431.out 5).trans rfl; have hcz122_6 : w121.cell? ⟨gb431, 6, none⟩ = some (.int .u64 a1_6) := (blk_cell BK431.out 6).trans rfl; have hcz122_7 : w121.cell? ⟨gb431, 7, none⟩ = some (.int .u64 a1_7) := (blk_cell BK431.out 7).trans rfl; have hcz122_8 : w121.cell? ⟨gb431, 8, none⟩ = some (.int .u64 a1_8) := (blk_cell BK431.out 8).trans rfl; have hfz122_0 := blk_frozen BK431.out 0; have hfz122_1 := blk_frozen BK431.out 1; have hfz122_2 := blk_frozen BK431.out 2; have hfz122_3 := blk_frozen BK431.out 3; have hfz122_4 := blk_frozen BK431.out 4; have hfz122_5 := blk_frozen BK431.out 5; have hfz122_6 := blk_frozen BK431.out 6; have hfz122_7 := blk_frozen BK431.out 7; have hfz122_8 := blk_frozen BK431.out 8) | (go_at_call 10; (with_reducible refine (vm_Run.calls k _ _ l0 a1_0 a1_1 a1_2 a1_3 a1_4 a1_5 a1_6 a1_7 a1_8 t433 t434 t435 _ ?side1 ?side2 A4.out).mono ?_); (case side1 => repeat (first | exact (Kd.C_below HR0.out HB.out) | (with_reducible refine Kd.C_alloc ?_ _) | (with_reducible refine Kd.C_drewN ?_ _) | (with_reducible refine Kd.C_drew ?_))); (case side2 => exact HC0.out); rintro e w123 ⟨rfl, hb⟩; have n0_ := Aside0.mk (blk_below (g := gb431) (o := .cells #[.int .u32 a1_0, .int .u32 a1_1, .int .u64 a1_2, .int .u64 a1_3, .int .u64 a1_4, .int .u64 a1_5, .int .u64 a1_6, .int .u64 a1_7, .int .u64 a1_8] 27 (0, 0)) (by (with_reducible repeat (first | refine blk_drewN ?_ _ | refine blk_drew ?_ | refine blk_alloc ?_ _)); exact BK431.out) hb); have n1_ := Aside0.mk (below_step (by repeat (first | (with_reducible first | exact HB.out | apply below_alloc | apply pw_below_drewN | apply below_drew1 | refine below_set ?_ GE431.out) | exact HB.out)) hb); clear BK431; clear HB; have BK431 := n0_; have HB := n1_; clear n0_ n1_; (try clear hb); (try clear hb2); (try clear hk); (try clear hi); have hcz124_0 : w123.cell? ⟨gb431, 0, none⟩ = some (.int .u32 a1_0) := (blk_cell BK431.out 0).trans rfl; have hcz124_1 : w123.cell? ⟨gb431, 1, none⟩ = some (.int .u32 a1_1) := (blk_cell BK431.out 1).trans rfl; have hcz124_2 : w123.cell? ⟨gb431, 2, none⟩ = some (.int .u64 a1_2) := (blk_cell BK431.out 2).trans rfl; have hcz124_3 : w123.cell? ⟨gb431, 3, none⟩ = some (.int .u64 a1_3) := (blk_cell BK431.out 3).trans rfl; have hcz124_4 : w123.cell? ⟨gb431, 4, none⟩ = some (.int .u64 a1_4) := (blk_cell BK431.out 4).trans rfl; have hcz124_5 : w123.cell? ⟨gb431, 5, none⟩ = some (.int .u64 a1_5) := (blk_cell BK431.out 5).trans rfl; have hcz124_6 : w123.cell? ⟨gb431, 6, none⟩ = some (.int .u64 a1_6) := (blk_cell BK431.out 6).trans rfl; have hcz124_7 : w123.cell? ⟨gb431, 7, none⟩ = some (.int .u64 a1_7) := (blk_cell BK431.out 7).trans rfl; have hcz124_8 : w123.cell? ⟨gb431, 8, none⟩ = some (.int .u64 a1_8) := (blk_cell BK431.out 8).trans rfl; have hfz124_0 := blk_frozen BK431.out 0; have hfz124_1 := blk_frozen BK431.out 1; have hfz124_2 := blk_frozen BK431.out 2; have hfz124_3 := blk_frozen BK431.out 3; have hfz124_4 := blk_frozen BK431.out 4; have hfz124_5 := blk_frozen BK431.out 5; have hfz124_6 := blk_frozen BK431.out 6; have hfz124_7 := blk_frozen BK431.out 7; have hfz124_8 := blk_frozen BK431.out 8) | (go_at_call 12; (with_reducible refine (vm_Trace.calls k _ _ l0 a1_0 a1_1 a1_2 a1_3 a1_4 a1_5 a1_6 a1_7 a1_8 t436 t439 _ ?side1 ?side2 A5.out).mono ?_); (case side1 => repeat (first | exact (Kd.C_below HR0.out HB.out) | (with_reducible refine Kd.C_alloc ?_ _) | (with_reducible refine Kd.C_drewN ?_ _) | (with_reducible refine Kd.C_drew ?_))); (case side2 => exact HC0.out); rintro e w125 ⟨v437, rfl, ho0, hb⟩; have n0_ := Aside0.mk (Kd.R_lower ho0 (below_size (by repeat (first | (with_reducible first | exact HB.out | apply below_alloc | apply pw_below_drewN | apply below_drew1 | refine below_set ?_ GE431.out) | exact HB.out)))); have n1_ := Aside0.mk (blk_below (g := gb431) (o := .cells #[.int .u32 a1_0, .int .u32 a1_1, .int .u64 a1_2, .int .u64 a1_3, .int .u64 a1_4, .int .u64 a1_5, .int .u64 a1_6, .int .u64 a1_7, .int .u64 a1_8] 27 (0, 0)) (by (with_reducible repeat (first | refine blk_drewN ?_ _ | refine blk_drew ?_ | refine blk_alloc ?_ _)); exact BK431.out) hb); have n2_ := Aside0.mk (below_step (by repeat (first | (with_reducible first | exact HB.out | apply below_alloc | apply pw_below_drewN | apply below_drew1 | refine below_set ?_ GE431.out) | exact HB.out)) hb); clear BK431; clear HB; have HO438 := n0_; have BK431 := n1_; have HB := n2_; clear n0_ n1_ n2_; (try clear hb); (try clear hb2); (try clear hk); (try clear hi); (try clear ho0)))
  go_ret
  exact ⟨by first | rfl | (simp [errW_none, errW_some] <;> rfl) | (simp [*, errW_none, errW_some] <;> rfl), by repeat (first | (with_reducible first | exact HB.out | apply below_alloc | apply pw_below_drewN | apply below_drew1 | refine below_set ?_ GE431.out) | exact HB.out)⟩

/-- What is to be shown of fairleadlaw06_VmGoes, without Go and memory. -/
def fairleadlaw06_VmGoes.Pure : Prop := ∀ (l0 : List (S37)) (a1_0 : Int) (a1_1 : Int) (a1_2 : Int) (a1_3 : Int) (a1_4 : Int) (a1_5 : Int) (a1_6 : Int) (a1_7 : Int) (a1_8 : Int), (l0.length ≤ 9223372036854775807 ∧ ∀ x ∈ l0, (0 ≤ x.f0 ∧ x.f0 ≤ 65535) ∧ (0 ≤ x.f1 ∧ x.f1 ≤ 255) ∧ (0 ≤ x.f2 ∧ x.f2 ≤ 255) ∧ (0 ≤ x.f3 ∧ x.f3 ≤ 4294967295)) → ((0 ≤ a1_0 ∧ a1_0 ≤ 4294967295) ∧ (0 ≤ a1_1 ∧ a1_1 ≤ 4294967295) ∧ (0 ≤ a1_2 ∧ a1_2 ≤ 18446744073709551615) ∧ ((0 ≤ a1_3 ∧ a1_3 ≤ 18446744073709551615) ∧ (0 ≤ a1_4 ∧ a1_4 ≤ 18446744073709551615) ∧ (0 ≤ a1_5 ∧ a1_5 ≤ 18446744073709551615) ∧ (0 ≤ a1_6 ∧ a1_6 ≤ 18446744073709551615) ∧ (0 ≤ a1_7 ∧ a1_7 ≤ 18446744073709551615) ∧ (0 ≤ a1_8 ∧ a1_8 ≤ 18446744073709551615))) → ∃ k, fairleadlaw06_VmGoes.f k l0 a1_0 a1_1 a1_2 a1_3 a1_4 a1_5 a1_6 a1_7 a1_8 = some true

end Go.Proofs.Ytdlmnmhlgacpnaa.M
