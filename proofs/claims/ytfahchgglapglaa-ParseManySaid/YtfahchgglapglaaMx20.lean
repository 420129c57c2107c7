-- Laid by a program (wip/tools/myprint.py) out of the loaded program's own print: for each Go function a Lean function and the proof of its contract.
import Derived.Test.YtfahchgglapglaaMx0
import Derived.Test.YtfahchgglapglaaMx10
import Derived.Test.YtfahchgglapglaaMx11
namespace Go.Proofs.Ytfahchgglapglaa.M
open Go.RowKit Go.Proofs.YtfahchgglapglaaW.PrintWords Go.Proofs.YtfahchgglapglaaW.PrintLast Go.Proofs.YtfahchgglapglaaW.PrintMore
attribute [local go_sem] max2_int min2_int max_two min_two max_three min_three max_four min_four   -- for this text's walks alone
set_option linter.unusedVariables false
set_option linter.unusedSimpArgs false

/-! ### fairleadlaw10_ParseMany: function 7 -/
mutual
def fairleadlaw10_ParseMany.j0 : Nat → Int → Int → Int → Bool → Bool → Option (Bool)
 | 0, _, _, _, _, _ => none
 | k + 1, x0, x1, x2, x7, x40 => if x40 = true then (some x7) else (fairleadlaw10_ParseMany.l0 k x0 x1 x2 x7 (⟨#[108, 111, 103, 32, 97]⟩ : ByteArray) 1)
def fairleadlaw10_ParseMany.l0 : Nat → Int → Int → Int → Bool → ByteArray → Int → Option (Bool)
 | 0, _, _, _, _, _, _ => none
 | k + 1, x0, x1, x2, x7, x8, x9 => if x9 < x1 then (if x8.size + 2 ≤ 9223372036854775807 then (fairleadlaw10_ParseMany.l0 k x0 x1 x2 x7 (x8 ++ (⟨#[44, 97]⟩ : ByteArray)) (wrap64 (x9 + 1))) else (none)) else (fairleadlaw10_ParseMany.l1 k x0 x1 x2 x7 x8 0)
def fairleadlaw10_ParseMany.l1 : Nat → Int → Int → Int → Bool → ByteArray → Int → Option (Bool)
 | 0, _, _, _, _, _, _ => none
 | k + 1, x0, x1, x2, x7, x8, x10 => if x10 < x2 then (if x10 = 0 then (if x8.size + 12 ≤ 9223372036854775807 then (fairleadlaw10_ParseMany.l1 k x0 x1 x2 x7 (x8 ++ (⟨#[32, 119, 104, 101, 110, 32, 97, 114, 103, 48, 60, 49]⟩ : ByteArray)) (wrap64 (x10 + 1))) else (none)) else (if x8.size + 11 ≤ 9223372036854775807 then (fairleadlaw10_ParseMany.l1 k x0 x1 x2 x7 (x8 ++ (⟨#[32, 97, 110, 100, 32, 97, 114, 103, 48, 60, 49]⟩ : ByteArray)) (wrap64 (x10 + 1))) else (none))) else (fairleadlaw10_ParseMany.l2 k x0 x1 x2 x7 x8 (⟨#[100, 101, 102, 97, 117, 108, 116, 32, 108, 111, 103, 59]⟩ : ByteArray) 0)
def fairleadlaw10_ParseMany.j4 : Nat → Int → Int → Int → Bool → ByteArray → ByteArray → Option (Bool)
 | 0, _, _, _, _, _, _ => none
 | k + 1, x0, x1, x2, x7, x8, x11 => if (x11.size : Int) > 8192 then (some x7) else ((parse_Parse.f k x11).bind fun bt314 => (if x0 > 0 then (if x1 > 16 then (fairleadlaw10_ParseMany.j5 k x7 x8 x11 bt314.2.2.2.1 true bt314.1 bt314.2.1 bt314.2.2.1) else (fairleadlaw10_ParseMany.j5 k x7 x8 x11 bt314.2.2.2.1 (decide (x2 > 8)) bt314.1 bt314.2.1 bt314.2.2.1)) else (fairleadlaw10_ParseMany.j5 k x7 x8 x11 bt314.2.2.2.1 false bt314.1 bt314.2.1 bt314.2.2.1)))
def fairleadlaw10_ParseMany.j5 : Nat → Bool → ByteArray → ByteArray → Int → Bool → Int → Int → List (S44) → Option (Bool)
 | 0, _, _, _, _, _, _, _, _ => none
 | k + 1, x7, x8, x11, x14, x93, Z0, Z1, Z2 => if x93 = true then (if x7 = true then (some (x14 == 4)) else (some false)) else (fairleadlaw10_ParseMany.l3 k x7 x8 x11 x14 0 12 Z0 Z1 Z2)
def fairleadlaw10_ParseMany.l3 : Nat → Bool → ByteArray → ByteArray → Int → Int → Int → Int → Int → List (S44) → Option (Bool)
 | 0, _, _, _, _, _, _, _, _, _ => none
 | k + 1, x7, x8, x11, x14, x16, x17, Z0, Z1, Z2 => if x17 < (x11.size : Int) then (fairleadlaw10_ParseMany.l3 k x7 x8 x11 x14 (wrap64 (x16 + 1)) (wrap64 ((wrap64 (x17 + (x8.size : Int))) + 1)) Z0 Z1 Z2) else (if x16 > 64 then (if x7 = true then (some (x14 == 4)) else (some false)) else (if x7 = true then (if x14 = 0 then (some ((Z2.length : Int) == x16)) else (some false)) else (some false)))
def fairleadlaw10_ParseMany.l2 : Nat → Int → Int → Int → Bool → ByteArray → ByteArray → Int → Option (Bool)
 | 0, _, _, _, _, _, _, _ => none
 | k + 1, x0, x1, x2, x7, x8, x11, x12 => if x12 < x0 then (if (x11.size : Int) < 8000 then (if x11.size + x8.size ≤ 9223372036854775807 then (if (x11 ++ x8).size + 1 ≤ 9223372036854775807 then (fairleadlaw10_ParseMany.l2 k x0 x1 x2 x7 x8 ((x11 ++ x8) ++ (⟨#[59]⟩ : ByteArray)) (wrap64 (x12 + 1))) else (none)) else (none)) else (fairleadlaw10_ParseMany.j4 k x0 x1 x2 x7 x8 x11)) else (fairleadlaw10_ParseMany.j4 k x0 x1 x2 x7 x8 x11)
end
def fairleadlaw10_ParseMany.f (k : Nat) (a0 : Int) (a1 : Int) (a2 : Int) : Option (Bool) := (fairleadlaw10_awake.f k).bind fun t313 => (if a0 < 0 then (fairleadlaw10_ParseMany.j0 k a0 a1 a2 t313 true) else (if a0 > 70 then (fairleadlaw10_ParseMany.j0 k a0 a1 a2 t313 true) else (if a1 < 1 then (fairleadlaw10_ParseMany.j0 k a0 a1 a2 t313 true) else (if a1 > 20 then (fairleadlaw10_ParseMany.j0 k a0 a1 a2 t313 true) else (if a2 < 0 then (fairleadlaw10_ParseMany.j0 k a0 a1 a2 t313 true) else (fairleadlaw10_ParseMany.j0 k a0 a1 a2 t313 (decide (a2 > 12))))))))
theorem fairleadlaw10_ParseMany.mono_l : ∀ k, (∀ y0 y1 y2 y3 y4, LeO (fairleadlaw10_ParseMany.j0 k y0 y1 y2 y3 y4) (fairleadlaw10_ParseMany.j0 (k + 1) y0 y1 y2 y3 y4)) ∧ (∀ y0 y1 y2 y3 y4 y5, LeO (fairleadlaw10_ParseMany.l0 k y0 y1 y2 y3 y4 y5) (fairleadlaw10_ParseMany.l0 (k + 1) y0 y1 y2 y3 y4 y5)) ∧ (∀ y0 y1 y2 y3 y4 y5, LeO (fairleadlaw10_ParseMany.l1 k y0 y1 y2 y3 y4 y5) (fairleadlaw10_ParseMany.l1 (k + 1) y0 y1 y2 y3 y4 y5)) ∧ (∀ y0 y1 y2 y3 y4 y5, LeO (fairleadlaw10_ParseMany.j4 k y0 y1 y2 y3 y4 y5) (fairleadlaw10_ParseMany.j4 (k + 1) y0 y1 y2 y3 y4 y5)) ∧ (∀ y0 y1 y2 y3 y4 y5 y6 y7, LeO (fairleadlaw10_ParseMany.j5 k y0 y1 y2 y3 y4 y5 y6 y7) (fairleadlaw10_ParseMany.j5 (k + 1) y0 y1 y2 y3 y4 y5 y6 y7)) ∧ (∀ y0 y1 y2 y3 y4 y5 y6 y7 y8, LeO (fairleadlaw10_ParseMany.l3 k y0 y1 y2 y3 y4 y5 y6 y7 y8) (fairleadlaw10_ParseMany.l3 (k + 1) y0 y1 y2 y3 y4 y5 y6 y7 y8)) ∧ (∀ y0 y1 y2 y3 y4 y5 y6, LeO (fairleadlaw10_ParseMany.l2 k y0 y1 y2 y3 y4 y5 y6) (fairleadlaw10_ParseMany.l2 (k + 1) y0 y1 y2 y3 y4 y5 y6))
 | 0 => ⟨fun _ _ _ _ _ r h => by simp [fairleadlaw10_ParseMany.j0] at h, fun _ _ _ _ _ _ r h => by simp [fairleadlaw10_ParseMany.l0] at h, fun _ _ _ _ _ _ r h => by simp [fairleadlaw10_ParseMany.l1] at h, fun _ _ _ _ _ _ r h => by simp [fairleadlaw10_ParseMany.j4] at h, fun _ _ _ _ _ _ _ _ r h => by simp [fairleadlaw10_ParseMany.j5] at h, fun _ _ _ _ _ _ _ _ _ r h => by simp [fairleadlaw10_ParseMany.l3] at h, fun _ _ _ _ _ _ _ r h => by simp [fairleadlaw10_ParseMany.l2] at h⟩
 | k + 1 => by
  obtain ⟨ih0, ih1, ih2, ih3, ih4, ih5, ih6⟩ := fairleadlaw10_ParseMany.mono_l k
  refine ⟨?_, ?_, ?_, ?_, ?_, ?_, ?_⟩
  ·intro y0 y1 y2 y3 y4
   unfold fairleadlaw10_ParseMany.j0
   repeat' first
   | (with_reducible exact ih0 _ _ _ _ _)
   | (with_reducible exact ih1 _ _ _ _ _ _)
   | (with_reducible exact ih2 _ _ _ _ _ _)
   | (with_reducible exact ih3 _ _ _ _ _ _)
   | (with_reducible exact ih4 _ _ _ _ _ _ _ _)
   | (with_reducible exact ih5 _ _ _ _ _ _ _ _ _)
   | (with_reducible exact ih6 _ _ _ _ _ _ _)
   | (with_reducible exact fairleadlaw10_awake.mono _)
   | (with_reducible exact parse_Parse.mono _ _)
   | (with_reducible exact LeO.refl _)
   | (with_reducible exact LeO.none _)
   | (with_reducible refine LeO.ite ?_ ?_)
   | (with_reducible refine LeO.bind ?_ (fun _ => ?_))
   | exact ih0 _ _ _ _ _
   | exact ih1 _ _ _ _ _ _
   | exact ih2 _ _ _ _ _ _
   | exact ih3 _ _ _ _ _ _
   | exact ih4 _ _ _ _ _ _ _ _
   | exact ih5 _ _ _ _ _ _ _ _ _
   | exact ih6 _ _ _ _ _ _ _
   | exact fairleadlaw10_awake.mono _
   | exact parse_Parse.mono _ _
   | exact LeO.none _
   | refine LeO.ite ?_ ?_
   | refine LeO.bind ?_ (fun _ => ?_)
  ·intro y0 y1 y2 y3 y4 y5
   unfold fairleadlaw10_ParseMany.l0
   repeat' first
   | (with_reducible exact ih0 _ _ _ _ _)
   | (with_reducible exact ih1 _ _ _ _ _ _)
   | (with_reducible exact ih2 _ _ _ _ _ _)
   | (with_reducible exact ih3 _ _ _ _ _ _)
   | (with_reducible exact ih4 _ _ _ _ _ _ _ _)
   | (with_reducible exact ih5 _ _ _ _ _ _ _ _ _)
   | (with_reducible exact ih6 _ _ _ _ _ _ _)
   | (with_reducible exact fairleadlaw10_awake.mono _)
   | (with_reducible exact parse_Parse.mono _ _)
   | (with_reducible exact LeO.refl _)
   | (with_reducible exact LeO.none _)
   | (with_reducible refine LeO.ite ?_ ?_)
   | (with_reducible refine LeO.bind ?_ (fun _ => ?_))
   | exact ih0 _ _ _ _ _
   | exact ih1 _ _ _ _ _ _
   | exact ih2 _ _ _ _ _ _
   | exact ih3 _ _ _ _ _ _
   | exact ih4 _ _ _ _ _ _ _ _
   | exact ih5 _ _ _ _ _ _ _ _ _
   | exact ih6 _ _ _ _ _ _ _
   | exact fairleadlaw10_awake.mono _
   | exact parse_Parse.mono _ _
   | exact LeO.none _
   | refine LeO.ite ?_ ?_
   | refine LeO.bind ?_ (fun _ => ?_)
  ·intro y0 y1 y2 y3 y4 y5
   unfold fairleadlaw10_ParseMany.l1
   repeat' first
   | (with_reducible exact ih0 _ _ _ _ _)
   | (with_reducible exact ih1 _ _ _ _ _ _)
   | (with_reducible exact ih2 _ _ _ _ _ _)
   | (with_reducible exact ih3 _ _ _ _ _ _)
   | (with_reducible exact ih4 _ _ _ _ _ _ _ _)
   | (with_reducible exact ih5 _ _ _ _ _ _ _ _ _)
   | (with_reducible exact ih6 _ _ _ _ _ _ _)
   | (with_reducible exact fairleadlaw10_awake.mono _)
   | (with_reducible exact parse_Parse.mono _ _)
   | (with_reducible exact LeO.refl _)
   | (with_reducible exact LeO.none _)
   | (with_reducible refine LeO.ite ?_ ?_)
   | (with_reducible refine LeO.bind ?_ (fun _ => ?_))
   | exact ih0 _ _ _ _ _
   | exact ih1 _ _ _ _ _ _
   | exact ih2 _ _ _ _ _ _
   | exact ih3 _ _ _ _ _ _
   | exact ih4 _ _ _ _ _ _ _ _
   | exact ih5 _ _ _ _ _ _ _ _ _
   | exact ih6 _ _ _ _ _ _ _
   | exact fairleadlaw10_awake.mono _
   | exact parse_Parse.mono _ _
   | exact LeO.none _
   | refine LeO.ite ?_ ?_
   | refine LeO.bind ?_ (fun _ => ?_)
  ·intro y0 y1 y2 y3 y4 y5
   unfold fairleadlaw10_ParseMany.j4
   repeat' first
   | (with_reducible exact ih0 _ _ _ _ _)
   | (with_reducible exact ih1 _ _ _ _ _ _)
   | (with_reducible exact ih2 _ _ _ _ _ _)
   | (with_reducible exact ih3 _ _ _ _ _ _)
   | (with_reducible exact ih4 _ _ _ _ _ _ _ _)
   | (with_reducible exact ih5 _ _ _ _ _ _ _ _ _)
   | (with_reducible exact ih6 _ _ _ _ _ _ _)
   | (with_reducible exact fairleadlaw10_awake.mono _)
   | (with_reducible exact parse_Parse.mono _ _)
   | (with_reducible exact LeO.refl _)
   | (with_reducible exact LeO.none _)
   | (with_reducible refine LeO.ite ?_ ?_)
   | (with_reducible refine LeO.bind ?_ (fun _ => ?_))
   | exact ih0 _ _ _ _ _
   | exact ih1 _ _ _ _ _ _
   | exact ih2 _ _ _ _ _ _
   | exact ih3 _ _ _ _ _ _
   | exact ih4 _ _ _ _ _ _ _ _
   | exact ih5 _ _ _ _ _ _ _ _ _
   | exact ih6 _ _ _ _ _ _ _
   | exact fairleadlaw10_awake.mono _
   | exact parse_Parse.mono _ _
   | exact LeO.none _
   | refine LeO.ite ?_ ?_
   | refine LeO.bind ?_ (fun _ => ?_)
  ·intro y0 y1 y2 y3 y4 y5 y6 y7
   unfold fairleadlaw10_ParseMany.j5
   repeat' first
   | (with_reducible exact ih0 _ _ _ _ _)
   | (with_reducible exact ih1 _ _ _ _ _ _)
   | (with_reducible exact ih2 _ _ _ _ _ _)
   | (with_reducible exact ih3 _ _ _ _ _ _)
   | (with_reducible exact ih4 _ _ _ _ _ _ _ _)
   | (with_reducible exact ih5 _ _ _ _ _ _ _ _ _)
   | (with_reducible exact ih6 _ _ _ _ _ _ _)
   | (with_reducible exact fairleadlaw10_awake.mono _)
   | (with_reducible exact parse_Parse.mono _ _)
   | (with_reducible exact LeO.refl _)
   | (with_reducible exact LeO.none _)
   | (with_reducible refine LeO.ite ?_ ?_)
   | (with_reducible refine LeO.bind ?_ (fun _ => ?_))
   | exact ih0 _ _ _ _ _
   | exact ih1 _ _ _ _ _ _
   | exact ih2 _ _ _ _ _ _
   | exact ih3 _ _ _ _ _ _
   | exact ih4 _ _ _ _ _ _ _ _
   | exact ih5 _ _ _ _ _ _ _ _ _
   | exact ih6 _ _ _ _ _ _ _
   | exact fairleadlaw10_awake.mono _
   | exact parse_Parse.mono _ _
   | exact LeO.none _
   | refine LeO.ite ?_ ?_
   | refine LeO.bind ?_ (fun _ => ?_)
  ·intro y0 y1 y2 y3 y4 y5 y6 y7 y8
   unfold fairleadlaw10_ParseMany.l3
   repeat' first
   | (with_reducible exact ih0 _ _ _ _ _)
   | (with_reducible exact ih1 _ _ _ _ _ _)
   | (with_reducible exact ih2 _ _ _ _ _ _)
   | (with_reducible exact ih3 _ _ _ _ _ _)
   | (with_reducible exact ih4 _ _ _ _ _ _ _ _)
   | (with_reducible exact ih5 _ _ _ _ _ _ _ _ _)
   | (with_reducible exact ih6 _ _ _ _ _ _ _)
   | (with_reducible exact fairleadlaw10_awake.mono _)
   | (with_reducible exact parse_Parse.mono _ _)
   | (with_reducible exact LeO.refl _)
   | (with_reducible exact LeO.none _)
   | (with_reducible refine LeO.ite ?_ ?_)
   | (with_reducible refine LeO.bind ?_ (fun _ => ?_))
   | exact ih0 _ _ _ _ _
   | exact ih1 _ _ _ _ _ _
   | exact ih2 _ _ _ _ _ _
   | exact ih3 _ _ _ _ _ _
   | exact ih4 _ _ _ _ _ _ _ _
   | exact ih5 _ _ _ _ _ _ _ _ _
   | exact ih6 _ _ _ _ _ _ _
   | exact fairleadlaw10_awake.mono _
   | exact parse_Parse.mono _ _
   | exact LeO.none _
   | refine LeO.ite ?_ ?_
   | refine LeO.bind ?_ (fun _ => ?_)
  ·intro y0 y1 y2 y3 y4 y5 y6
   unfold fairleadlaw10_ParseMany.l2
   repeat' first
   | (with_reducible exact ih0 _ _ _ _ _)
   | (with_reducible exact ih1 _ _ _ _ _ _)
   | (with_reducible exact ih2 _ _ _ _ _ _)
   | (with_reducible exact ih3 _ _ _ _ _ _)
   | (with_reducible exact ih4 _ _ _ _ _ _ _ _)
   | (with_reducible exact ih5 _ _ _ _ _ _ _ _ _)
   | (with_reducible exact ih6 _ _ _ _ _ _ _)
   | (with_reducible exact fairleadlaw10_awake.mono _)
   | (with_reducible exact parse_Parse.mono _ _)
   | (with_reducible exact LeO.refl _)
   | (with_reducible exact LeO.none _)
   | (with_reducible refine LeO.ite ?_ ?_)
   | (with_reducible refine LeO.bind ?_ (fun _ => ?_))
   | exact ih0 _ _ _ _ _
   | exact ih1 _ _ _ _ _ _
   | exact ih2 _ _ _ _ _ _
   | exact ih3 _ _ _ _ _ _
   | exact ih4 _ _ _ _ _ _ _ _
   | exact ih5 _ _ _ _ _ _ _ _ _
   | exact ih6 _ _ _ _ _ _ _
   | exact fairleadlaw10_awake.mono _
   | exact parse_Parse.mono _ _
   | exact LeO.none _
   | refine LeO.ite ?_ ?_
   | refine LeO.bind ?_ (fun _ => ?_)
theorem fairleadlaw10_ParseMany.mono : ∀ a0 a1 a2 k, LeO (fairleadlaw10_ParseMany.f k a0 a1 a2) (fairleadlaw10_ParseMany.f (k + 1) a0 a1 a2) := by
 intro a0 a1 a2 k
 obtain ⟨ih0, ih1, ih2, ih3, ih4, ih5, ih6⟩ := fairleadlaw10_ParseMany.mono_l k
 unfold fairleadlaw10_ParseMany.f
 repeat' first
   | (with_reducible exact ih0 _ _ _ _ _)
   | (with_reducible exact ih1 _ _ _ _ _ _)
   | (with_reducible exact ih2 _ _ _ _ _ _)
   | (with_reducible exact ih3 _ _ _ _ _ _)
   | (with_reducible exact ih4 _ _ _ _ _ _ _ _)
   | (with_reducible exact ih5 _ _ _ _ _ _ _ _ _)
   | (with_reducible exact ih6 _ _ _ _ _ _ _)
   | (with_reducible exact fairleadlaw10_awake.mono _)
   | (with_reducible exact parse_Parse.mono _ _)
   | (with_reducible exact LeO.refl _)
   | (with_reducible exact LeO.none _)
   | (with_reducible refine LeO.ite ?_ ?_)
   | (with_reducible refine LeO.bind ?_ (fun _ => ?_))
   | exact ih0 _ _ _ _ _
   | exact ih1 _ _ _ _ _ _
   | exact ih2 _ _ _ _ _ _
   | exact ih3 _ _ _ _ _ _
   | exact ih4 _ _ _ _ _ _ _ _
   | exact ih5 _ _ _ _ _ _ _ _ _
   | exact ih6 _ _ _ _ _ _ _
   | exact fairleadlaw10_awake.mono _
   | exact parse_Parse.mono _ _
   | exact LeO.none _
   | refine LeO.ite ?_ ?_
   | refine LeO.bind ?_ (fun _ => ?_)
set_option maxHeartbeats 8000000 in
set_option maxRecDepth 100000 in
theorem fairleadlaw10_ParseMany.calls (k : Nat) (a0 : Int) (a1 : Int) (a2 : Int) (r : Bool) (w : World) (h : fairleadlaw10_ParseMany.f k a0 a1 a2 = some r) :
  Calls Try.prog 7 #[.int .i64 a0, .int .i64 a1, .int .i64 a2] w fun e w' => e = .returned (.bool r) ∧ Below w.heap.size w w' := by
 have hu27 := Try.underlying27
 have HB := Aside0.mk (Below.refl w.heap.size w)
 have H : ((fairleadlaw10_awake.f k).bind fun t313 => (if a0 < 0 then (fairleadlaw10_ParseMany.j0 k a0 a1 a2 t313 true) else (if a0 > 70 then (fairleadlaw10_ParseMany.j0 k a0 a1 a2 t313 true) else (if a1 < 1 then (fairleadlaw10_ParseMany.j0 k a0 a1 a2 t313 true) else (if a1 > 20 then (fairleadlaw10_ParseMany.j0 k a0 a1 a2 t313 true) else (if a2 < 0 then (fairleadlaw10_ParseMany.j0 k a0 a1 a2 t313 true) else (fairleadlaw10_ParseMany.j0 k a0 a1 a2 t313 (decide (a2 > 12))))))))) = some r := h
 clear h
 replace H := Option.bind_eq_some_iff.mp H
 obtain ⟨t313, A40, H⟩ := H
 replace H : (if a0 < 0 then (fairleadlaw10_ParseMany.j0 k a0 a1 a2 t313 true) else (if a0 > 70 then (fairleadlaw10_ParseMany.j0 k a0 a1 a2 t313 true) else (if a1 < 1 then (fairleadlaw10_ParseMany.j0 k a0 a1 a2 t313 true) else (if a1 > 20 then (fairleadlaw10_ParseMany.j0 k a0 a1 a2 t313 true) else (if a2 < 0 then (fairleadlaw10_ParseMany.j0 k a0 a1 a2 t313 true) else (fairleadlaw10_ParseMany.j0 k a0 a1 a2 t313 (decide (a2 > 12)))))))) = some r := H
 have A4 := Aside0.mk A40
 clear A40
 have HC5 := Aside0.mk H
 clear H
 go_enter Try.func7, Try.ntmps7
 go_upto_region 2 with (first | ((with_reducible refine gate_callee (f := 9) rfl ?_); refine goesL_ (some 18) rfl rfl Try.func9 (by kernel_rfl) rfl #[] rfl (by (try simp only [List.map_toArray, List.map_cons, List.map_nil]); first | done | rfl | (simp only [List.length_drop, List.length_take]; rfl)) ?_; (with_reducible refine (fairleadlaw10_awake.calls k  t313 _ A4.out).mono ?_); rintro e w6 ⟨rfl, hb⟩; refine ⟨_, rfl, ?_⟩; have n0_ := Aside0.mk (below_step (by repeat (first | (with_reducible first | exact HB.out | apply below_alloc | apply pw_below_drewN | apply below_drew1) | exact HB.out)) hb); clear HB; have HB := n0_; clear n0_; (try clear hb); (try clear hb2); (try clear hk); (try clear hi)))
 (try simp only [Act.put, List.setIfInBounds_toArray, List.set_cons_zero, List.set_cons_succ])
 go_cut [40] (fun v40 wc => ∃ (kq : Nat) (x40_4 : Bool), v40 = .bool x40_4 ∧ Aside0 (fairleadlaw10_ParseMany.j0 kq a0 a1 a2 t313 x40_4 = some r) ∧ Aside0 (kq ≤ k) ∧ Aside0 (Below w.heap.size w wc))
 case first =>
  have H := HC5.out
  clear HC5
  by_cases c7 : a0 < 0
  ·rw [if_pos c7] at H
   have c7b0 : decide (a0 < 0) = true := decide_eq_true c7
   clear c7
   (first | rw [c7b0] | (simp only [i64_w, i32_w]; rw [c7b0]) | skip)
   have H' := Aside0.mk H
   clear H
   go_wp2
   go_meet
   case rel => exact ⟨_, (true), (by first | rfl | (simp; done) | (simp [*]; done)), H', ⟨by first | omega | exact Nat.le_refl _⟩, ⟨by repeat (first | (with_reducible first | exact HB.out | apply below_alloc | apply pw_below_drewN | apply below_drew1) | exact HB.out)⟩⟩
  ·rw [if_neg c7] at H
   have c7b0 : decide (a0 < 0) = false := decide_eq_false c7
   clear c7
   (first | rw [c7b0] | (simp only [i64_w, i32_w]; rw [c7b0]) | skip)
   by_cases c8 : a0 > 70
   ·rw [if_pos c8] at H
    have c8b0 : decide (70 < a0) = true := decide_eq_true c8
    clear c8
    have H' := Aside0.mk H
    clear H
    go_wp2
    go_meet
    case rel => exact ⟨_, (true), (by first | rfl | (simp; done) | (simp [*]; done)), H', ⟨by first | omega | exact Nat.le_refl _⟩, ⟨by repeat (first | (with_reducible first | exact HB.out | apply below_alloc | apply pw_below_drewN | apply below_drew1) | exact HB.out)⟩⟩
   ·rw [if_neg c8] at H
    have c8b0 : decide (70 < a0) = false := decide_eq_false c8
    clear c8
    by_cases c9 : a1 < 1
    ·rw [if_pos c9] at H
     have c9b0 : decide (a1 < 1) = true := decide_eq_true c9
     clear c9
     have H' := Aside0.mk H
     clear H
     go_wp2
     go_meet
     case rel => exact ⟨_, (true), (by first | rfl | (simp; done) | (simp [*]; done)), H', ⟨by first | omega | exact Nat.le_refl _⟩, ⟨by repeat (first | (with_reducible first | exact HB.out | apply below_alloc | apply pw_below_drewN | apply below_drew1) | exact HB.out)⟩⟩
    ·rw [if_neg c9] at H
     have c9b0 : decide (a1 < 1) = false := decide_eq_false c9
     clear c9
     by_cases c10 : a1 > 20
     ·rw [if_pos c10] at H
      have c10b0 : decide (20 < a1) = true := decide_eq_true c10
      clear c10
      have H' := Aside0.mk H
      clear H
      go_wp2
      go_meet
      case rel => exact ⟨_, (true), (by first | rfl | (simp; done) | (simp [*]; done)), H', ⟨by first | omega | exact Nat.le_refl _⟩, ⟨by repeat (first | (with_reducible first | exact HB.out | apply below_alloc | apply pw_below_drewN | apply below_drew1) | exact HB.out)⟩⟩
     ·rw [if_neg c10] at H
      have c10b0 : decide (20 < a1) = false := decide_eq_false c10
      clear c10
      by_cases c11 : a2 < 0
      ·rw [if_pos c11] at H
       have c11b0 : decide (a2 < 0) = true := decide_eq_true c11
       clear c11
       have H' := Aside0.mk H
       clear H
       go_wp2
       go_meet
       case rel => exact ⟨_, (true), (by first | rfl | (simp; done) | (simp [*]; done)), H', ⟨by first | omega | exact Nat.le_refl _⟩, ⟨by repeat (first | (with_reducible first | exact HB.out | apply below_alloc | apply pw_below_drewN | apply below_drew1) | exact HB.out)⟩⟩
      ·rw [if_neg c11] at H
       have c11b0 : decide (a2 < 0) = false := decide_eq_false c11
       clear c11
       have H' := Aside0.mk H
       clear H
       go_wp2
       go_meet
       case rel => exact ⟨_, (decide (a2 > 12)), (by first | rfl | (simp; done) | (simp [*]; done)), H', ⟨by first | omega | exact Nat.le_refl _⟩, ⟨by repeat (first | (with_reducible first | exact HB.out | apply below_alloc | apply pw_below_drewN | apply below_drew1) | exact HB.out)⟩⟩
 case rest =>
  clear HC5
  try clear c1
  try clear p2
  try clear c7
  try clear c7b0
  try clear c8
  try clear c8b0
  try clear c9
  try clear c9b0
  try clear c10
  try clear c10b0
  try clear c11
  try clear c11b0
  obtain ⟨kq, x40_4, rfl, HA, HJ4, HB⟩ := hcut
  cases kq with
  | zero => exact absurd HA.out (by simp [fairleadlaw10_ParseMany.j0])
  | succ kj4 =>
   have H := HA.out
   clear HA
   simp only [fairleadlaw10_ParseMany.j0] at H
   by_cases c12 : x40_4 = true
   ·subst c12
    have H1 : (some t313) = some r := by rw [if_pos rfl] at H; exact H
    clear H
    have H := H1
    clear H1
    obtain rfl := Option.some.inj H
    go_wp2
    go_ret
    exact ⟨by first | rfl | (simp [errW_none, errW_some] <;> rfl) | (simp [*, errW_none, errW_some] <;> rfl), by repeat (first | (with_reducible first | exact HB.out | apply below_alloc | apply pw_below_drewN | apply below_drew1) | exact HB.out)⟩
   ·replace c12 := Bool.eq_false_iff.mpr c12
    subst c12
    have H1 : (fairleadlaw10_ParseMany.l0 kj4 a0 a1 a2 t313 (⟨#[108, 111, 103, 32, 97]⟩ : ByteArray) 1) = some r := by rw [if_neg (show ¬ (false = true) by decide)] at H; exact H
    clear H
    have H := H1
    clear H1
    have H' := Aside0.mk H
    clear H
    go_wp2
    go_loopg [8, 9] kj4 (fun kq v8 v9 w' => ∃ (x8_2 : ByteArray) (x9_2 : Int), v8 = .string x8_2 ∧ v9 = .int .i64 x9_2 ∧ Aside0 (fairleadlaw10_ParseMany.l0 kq a0 a1 a2 t313 x8_2 x9_2 = some r) ∧ Aside0 (kq ≤ kj4) ∧ Aside0 (Below w.heap.size w w'))
    case atStart => exact ⟨((⟨#[108, 111, 103, 32, 97]⟩ : ByteArray)), (1), (by first | rfl | (simp; done) | (simp [*]; done)), (by first | rfl | (simp; done) | (simp [*]; done)), H', ⟨Nat.le_refl _⟩, ⟨by repeat (first | (with_reducible first | exact HB.out | apply below_alloc | apply pw_below_drewN | apply below_drew1) | exact HB.out)⟩⟩
    case round =>
     clear H'
     try clear c1
     try clear p2
     try clear c7
     try clear c7b0
     try clear c8
     try clear c8b0
     try clear c9
     try clear c9b0
     try clear c10
     try clear c10b0
     try clear c11
     try clear c11b0
     try clear c12
     try clear p2
     obtain ⟨x8_2, x9_2, rfl, rfl, HA, HK2, HB⟩ := hrel
     cases gk with
     | zero => exact absurd HA.out (by simp [fairleadlaw10_ParseMany.l0])
     | succ k2 =>
      have H := HA.out
      clear HA
      simp only [fairleadlaw10_ParseMany.l0] at H
      by_cases c13 : x9_2 < a1
      ·rw [if_pos c13] at H
       have c13b0 : decide (x9_2 < a1) = true := decide_eq_true c13
       clear c13
       by_cases c14 : x8_2.size + 2 ≤ 9223372036854775807
       ·rw [if_pos c14] at H
        have c14b0 := eq_true c14
        have c14b1 : decide (x8_2.size + 2 ≤ 9223372036854775807) = true := decide_eq_true c14
        try have c14b2 : (9223372036854775807 < x8_2.size + 2) = False := eq_false (Nat.not_lt.2 c14)
        have H' := Aside0.mk H
        clear H
        go_wp2
        go_roundg k2
        case measure => have := HJ4.out; have := HK2.out; omega
        case rel => exact ⟨(x8_2 ++ (⟨#[44, 97]⟩ : ByteArray)), (wrap64 (x9_2 + 1)), (by first | rfl | (simp; done) | (simp [*]; done)), (by first | rfl | (simp; done) | (simp [*]; done)), H', ⟨by have := HJ4.out; have := HK2.out; omega⟩, ⟨by repeat (first | (with_reducible first | exact HB.out | apply below_alloc | apply pw_below_drewN | apply below_drew1) | exact HB.out)⟩⟩
       ·rw [if_neg c14] at H
        exact absurd H (by simp)
      ·rw [if_neg c13] at H
       have c13b0 : decide (x9_2 < a1) = false := decide_eq_false c13
       clear c13
       have H' := Aside0.mk H
       clear H
       go_wp2
       go_loopg [8, 10] k2 (fun kq v8 v10 w' => ∃ (x8_3 : ByteArray) (x10_3 : Int), v8 = .string x8_3 ∧ v10 = .int .i64 x10_3 ∧ Aside0 (fairleadlaw10_ParseMany.l1 kq a0 a1 a2 t313 x8_3 x10_3 = some r) ∧ Aside0 (kq ≤ k2) ∧ Aside0 (Below w.heap.size w w'))
       case atStart => exact ⟨(x8_2), (0), (by first | rfl | (simp; done) | (simp [*]; done)), (by first | rfl | (simp; done) | (simp [*]; done)), H', ⟨Nat.le_refl _⟩, ⟨by repeat (first | (with_reducible first | exact HB.out | apply below_alloc | apply pw_below_drewN | apply below_drew1) | exact HB.out)⟩⟩
       case round =>
        clear H'
        try clear c1
        try clear p2
        try clear p6
        try clear c7
        try clear c7b0
        try clear c8
        try clear c8b0
        try clear c9
        try clear c9b0
        try clear c10
        try clear c10b0
        try clear c11
        try clear c11b0
        try clear c12
        try clear c13
        try clear c13b0
        try clear c14
        try clear c14b0
        try clear c14b1
        try clear c14b2
        try clear p2
        obtain ⟨x8_3, x10_3, rfl, rfl, HA, HK3, HB⟩ := hrel
        cases gk with
        | zero => exact absurd HA.out (by simp [fairleadlaw10_ParseMany.l1])
        | succ k3 =>
         have H := HA.out
         clear HA
         simp only [fairleadlaw10_ParseMany.l1] at H
         by_cases c15 : x10_3 < a2
         ·rw [if_pos c15] at H
          have c15b0 : decide (x10_3 < a2) = true := decide_eq_true c15
          clear c15
          by_cases c16 : x10_3 = 0
          ·rw [if_pos c16] at H
           have c16b0 : (x10_3 == 0) = true := beq_iff_eq.mpr c16
           have c16b1 : (x10_3 != 0) = false := bne_eq_false_iff_eq.mpr c16
           clear c16
           by_cases c17 : x8_3.size + 12 ≤ 9223372036854775807
           ·rw [if_pos c17] at H
            have c17b0 := eq_true c17
            have c17b1 : decide (x8_3.size + 12 ≤ 9223372036854775807) = true := decide_eq_true c17
            try have c17b2 : (9223372036854775807 < x8_3.size + 12) = False := eq_false (Nat.not_lt.2 c17)
            have H' := Aside0.mk H
            clear H
            go_wp2
            go_roundg k3
            case measure => have := HJ4.out; have := HK2.out; have := HK3.out; omega
            case rel => exact ⟨(x8_3 ++ (⟨#[32, 119, 104, 101, 110, 32, 97, 114, 103, 48, 60, 49]⟩ : ByteArray)), (wrap64 (x10_3 + 1)), (by first | rfl | (simp; done) | (simp [*]; done)), (by first | rfl | (simp; done) | (simp [*]; done)), H', ⟨by have := HJ4.out; have := HK2.out; have := HK3.out; omega⟩, ⟨by repeat (first | (with_reducible first | exact HB.out | apply below_alloc | apply pw_below_drewN | apply below_drew1) | exact HB.out)⟩⟩
           ·rw [if_neg c17] at H
            exact absurd H (by simp)
          ·rw [if_neg c16] at H
           have c16b0 : (x10_3 == 0) = false := beq_eq_false_iff_ne.mpr c16
           have c16b1 : (x10_3 != 0) = true := bne_iff_ne.mpr c16
           by_cases c18 : x8_3.size + 11 ≤ 9223372036854775807
           ·rw [if_pos c18] at H
            have c18b0 := eq_true c18
            have c18b1 : decide (x8_3.size + 11 ≤ 9223372036854775807) = true := decide_eq_true c18
            try have c18b2 : (9223372036854775807 < x8_3.size + 11) = False := eq_false (Nat.not_lt.2 c18)
            have H' := Aside0.mk H
            clear H
            go_wp2
            go_roundg k3
            case measure => have := HJ4.out; have := HK2.out; have := HK3.out; omega
            case rel => exact ⟨(x8_3 ++ (⟨#[32, 97, 110, 100, 32, 97, 114, 103, 48, 60, 49]⟩ : ByteArray)), (wrap64 (x10_3 + 1)), (by first | rfl | (simp; done) | (simp [*]; done)), (by first | rfl | (simp; done) | (simp [*]; done)), H', ⟨by have := HJ4.out; have := HK2.out; have := HK3.out; omega⟩, ⟨by repeat (first | (with_reducible first | exact HB.out | apply below_alloc | apply pw_below_drewN | apply below_drew1) | exact HB.out)⟩⟩
           ·rw [if_neg c18] at H
            exact absurd H (by simp)
         ·rw [if_neg c15] at H
          have c15b0 : decide (x10_3 < a2) = false := decide_eq_false c15
          clear c15
          have HC19 := Aside0.mk H
          clear H
          go_upto_block 4 with (fail)
          go_cut [11] (fun v11 wc => ∃ (kq : Nat) (x11_18 : ByteArray), v11 = .string x11_18 ∧ Aside0 (fairleadlaw10_ParseMany.j4 kq a0 a1 a2 t313 x8_3 x11_18 = some r) ∧ Aside0 (kq ≤ k3) ∧ Aside0 (Below w.heap.size w wc))
          case first =>
           have H := HC19.out
           clear HC19
           have H' := Aside0.mk H
           clear H
           go_wp2
           go_loopg [11, 12] k3 (fun kq v11 v12 w' => ∃ (x11_4 : ByteArray) (x12_4 : Int), v11 = .string x11_4 ∧ v12 = .int .i64 x12_4 ∧ Aside0 (fairleadlaw10_ParseMany.l2 kq a0 a1 a2 t313 x8_3 x11_4 x12_4 = some r) ∧ Aside0 (kq ≤ k3) ∧ Aside0 (Below w.heap.size w w'))
           case atStart => exact ⟨((⟨#[100, 101, 102, 97, 117, 108, 116, 32, 108, 111, 103, 59]⟩ : ByteArray)), (0), (by first | rfl | (simp; done) | (simp [*]; done)), (by first | rfl | (simp; done) | (simp [*]; done)), H', ⟨Nat.le_refl _⟩, ⟨by repeat (first | (with_reducible first | exact HB.out | apply below_alloc | apply pw_below_drewN | apply below_drew1) | exact HB.out)⟩⟩
           case round =>
            clear H'
            try clear c1
            try clear p2
            try clear p6
            try clear c7
            try clear c7b0
            try clear c8
            try clear c8b0
            try clear c9
            try clear c9b0
            try clear c10
            try clear c10b0
            try clear c11
            try clear c11b0
            try clear c12
            try clear c13
            try clear c13b0
            try clear c14
            try clear c14b0
            try clear c14b1
            try clear c14b2
            try clear c15
            try clear c15b0
            try clear c16
            try clear c16b0
            try clear c16b1
            try clear c17
            try clear c17b0
            try clear c17b1
            try clear c17b2
            try clear c18
            try clear c18b0
            try clear c18b1
            try clear c18b2
            try clear p2
            try clear p6
            obtain ⟨x11_4, x12_4, rfl, rfl, HA, HK4, HB⟩ := hrel
            cases gk with
            | zero => exact absurd HA.out (by simp [fairleadlaw10_ParseMany.l2])
            | succ k4 =>
             have H := HA.out
             clear HA
             simp only [fairleadlaw10_ParseMany.l2] at H
             by_cases c20 : x12_4 < a0
             ·rw [if_pos c20] at H
              have c20b0 : decide (x12_4 < a0) = true := decide_eq_true c20
              clear c20
              (first | rw [c20b0] | (simp only [i64_w, i32_w]; rw [c20b0]) | skip)
              by_cases c21 : (x11_4.size : Int) < 8000
              ·rw [if_pos c21] at H
               have c21b0 : decide ((x11_4.size : Int) < 8000) = true := decide_eq_true c21
               have c21b1 : decide (x11_4.size < 8000) = true := decide_eq_true (by omega)
               clear c21
               by_cases c22 : x11_4.size + x8_3.size ≤ 9223372036854775807
               ·rw [if_pos c22] at H
                have c22b0 := eq_true c22
                have c22b1 : decide (x11_4.size + x8_3.size ≤ 9223372036854775807) = true := decide_eq_true c22
                try have c22b2 : (9223372036854775807 < x11_4.size + x8_3.size) = False := eq_false (Nat.not_lt.2 c22)
                by_cases c23 : (x11_4 ++ x8_3).size + 1 ≤ 9223372036854775807
                ·rw [if_pos c23] at H
                 have c23b0 := eq_true c23
                 have c23b1 : decide ((x11_4 ++ x8_3).size + 1 ≤ 9223372036854775807) = true := decide_eq_true c23
                 (try (have c23b1s := c23b1; simp only [ByteArray.size_append, Int.natCast_add, Int.cast_ofNat_Int] at c23b1s))
                 (try (have c23h := c23; simp only [ByteArray.size_append] at c23h; have c23b5 := eq_true c23h; have c23b6 := eq_false (Nat.not_lt.2 c23h); clear c23h))
                 try have c23b2 : (9223372036854775807 < (x11_4 ++ x8_3).size + 1) = False := eq_false (Nat.not_lt.2 c23)
                 have H' := Aside0.mk H
                 clear H
                 go_wp2
                 go_roundg k4
                 case measure => have := HJ4.out; have := HK2.out; have := HK3.out; have := HK4.out; omega
                 case rel => exact ⟨((x11_4 ++ x8_3) ++ (⟨#[59]⟩ : ByteArray)), (wrap64 (x12_4 + 1)), (by first | rfl | (simp; done) | (simp [*]; done)), (by first | rfl | (simp; done) | (simp [*]; done)), H', ⟨by have := HJ4.out; have := HK2.out; have := HK3.out; have := HK4.out; omega⟩, ⟨by repeat (first | (with_reducible first | exact HB.out | apply below_alloc | apply pw_below_drewN | apply below_drew1) | exact HB.out)⟩⟩
                ·rw [if_neg c23] at H
                 exact absurd H (by simp)
               ·rw [if_neg c22] at H
                exact absurd H (by simp)
              ·rw [if_neg c21] at H
               have c21b0 : decide ((x11_4.size : Int) < 8000) = false := decide_eq_false c21
               have c21b1 : decide (x11_4.size < 8000) = false := decide_eq_false (by omega)
               clear c21
               have H' := Aside0.mk H
               clear H
               go_wp2
               go_meet
               case rel => exact ⟨_, (x11_4), (by first | rfl | (simp; done) | (simp [*]; done)), H', ⟨by have := HJ4.out; have := HK2.out; have := HK3.out; have := HK4.out; first | omega | exact Nat.le_refl _⟩, ⟨by repeat (first | (with_reducible first | exact HB.out | apply below_alloc | apply pw_below_drewN | apply below_drew1) | exact HB.out)⟩⟩
             ·rw [if_neg c20] at H
              have c20b0 : decide (x12_4 < a0) = false := decide_eq_false c20
              clear c20
              (first | rw [c20b0] | (simp only [i64_w, i32_w]; rw [c20b0]) | skip)
              have H' := Aside0.mk H
              clear H
              go_wp2
              go_meet
              case rel => exact ⟨_, (x11_4), (by first | rfl | (simp; done) | (simp [*]; done)), H', ⟨by have := HJ4.out; have := HK2.out; have := HK3.out; have := HK4.out; first | omega | exact Nat.le_refl _⟩, ⟨by repeat (first | (with_reducible first | exact HB.out | apply below_alloc | apply pw_below_drewN | apply below_drew1) | exact HB.out)⟩⟩
          case rest =>
           clear HC19
           try clear c1
           try clear c2
           try clear p2
           try clear p6
           try clear c7
           try clear c7b0
           try clear c8
           try clear c8b0
           try clear c9
           try clear c9b0
           try clear c10
           try clear c10b0
           try clear c11
           try clear c11b0
           try clear c12
           try clear c13
           try clear c13b0
           try clear c14
           try clear c14b0
           try clear c14b1
           try clear c14b2
           try clear c15
           try clear c15b0
           try clear c16
           try clear c16b0
           try clear c16b1
           try clear c17
           try clear c17b0
           try clear c17b1
           try clear c17b2
           try clear c18
           try clear c18b0
           try clear c18b1
           try clear c18b2
           try clear c20
           try clear c20b0
           try clear c21
           try clear c21b0
           try clear c21b1
           try clear c22
           try clear c22b0
           try clear c22b1
           try clear c22b2
           try clear c23
           try clear c23b0
           try clear c23b1
           try clear c23b2
           try clear p2
           try clear p6
           obtain ⟨kq, x11_18, rfl, HA, HJ18, HB⟩ := hcut
           cases kq with
           | zero => exact absurd HA.out (by simp [fairleadlaw10_ParseMany.j4])
           | succ kj18 =>
            have H := HA.out
            clear HA
            simp only [fairleadlaw10_ParseMany.j4] at H
            by_cases c24 : (x11_18.size : Int) > 8192
            ·rw [if_pos c24] at H
             have c24b0 : decide (8192 < (x11_18.size : Int)) = true := decide_eq_true c24
             have c24b1 : decide (8192 < x11_18.size) = true := decide_eq_true (by omega)
             clear c24
             obtain rfl := Option.some.inj H
             go_wp2
             go_ret
             exact ⟨by first | rfl | (simp [errW_none, errW_some] <;> rfl) | (simp [*, errW_none, errW_some] <;> rfl), by repeat (first | (with_reducible first | exact HB.out | apply below_alloc | apply pw_below_drewN | apply below_drew1) | exact HB.out)⟩
            ·rw [if_neg c24] at H
             have c24b0 : decide (8192 < (x11_18.size : Int)) = false := decide_eq_false c24
             have c24b1 : decide (8192 < x11_18.size) = false := decide_eq_false (by omega)
             clear c24
             replace H := Option.bind_eq_some_iff.mp H
             obtain ⟨⟨t314, t315, t316, t319, t320⟩, A250, H⟩ := H
             replace H : (if a0 > 0 then (if a1 > 16 then (fairleadlaw10_ParseMany.j5 kj18 t313 x8_3 x11_18 t319 true t314 t315 t316) else (fairleadlaw10_ParseMany.j5 kj18 t313 x8_3 x11_18 t319 (decide (a2 > 8)) t314 t315 t316)) else (fairleadlaw10_ParseMany.j5 kj18 t313 x8_3 x11_18 t319 false t314 t315 t316)) = some r := H
             have A25 := Aside0.mk A250
             clear A250
             have HC26 := Aside0.mk H
             clear H
             go_upto_region 23 with (first | ((with_reducible refine gate_callee (f := 10) rfl ?_); refine goesL_ (some 80) rfl rfl Try.func10 (by kernel_rfl) rfl #[.string x11_18] rfl (by (try simp only [List.map_toArray, List.map_cons, List.map_nil]); first | done | rfl | (simp only [List.length_drop, List.length_take]; rfl)) ?_; (with_reducible refine (parse_Parse.calls kj18 x11_18 t314 t315 t316 t319 t320 _ A25.out).mono ?_); rintro e w27 ⟨v317, rfl, ho0, hb⟩; refine ⟨_, rfl, ?_⟩; have n0_ := Aside0.mk (Kd.S_lower ho0 (below_size (by repeat (first | (with_reducible first | exact HB.out | apply below_alloc | apply pw_below_drewN | apply below_drew1) | exact HB.out)))); have n1_ := Aside0.mk (below_step (by repeat (first | (with_reducible first | exact HB.out | apply below_alloc | apply pw_below_drewN | apply below_drew1) | exact HB.out)) hb); clear HB; have HO318 := n0_; have HB := n1_; clear n0_ n1_; (try clear hb); (try clear hb2); (try clear hk); (try clear hi); (try clear ho0)) | ((with_reducible refine gate_dst (N := 13) rfl ?_); (try (refine gate_guard (by rfl) ?_; dsimp only)); refine box_event ?hg (N := 13) ?hd (cs := #[.int .i64 0, .int .i64 0, .slice none 0 0]) (t := 27) ?hr ?_; (case hd => rfl); (case hg => rfl); (case hr => first | (go_simp; done) | (go_simp; rfl)); intro gb321 hg w28 hbox hb; have n0_ := Aside0.mk (Kd.S_below (by (with_reducible repeat (first | apply Kd.S_alloc | apply Kd.S_drewN | apply Kd.S_drew)); exact HO318.out) hb); have n1_ := Aside0.mk (below_step (by repeat (first | (with_reducible first | exact HB.out | apply below_alloc | apply pw_below_drewN | apply below_drew1) | exact HB.out)) hb); have n2_ := Aside0.mk (hbox); have n3_ := Aside0.mk ((by rw [hg]; exact (below_size (by repeat (first | (with_reducible first | exact HB.out | apply below_alloc | apply pw_below_drewN | apply below_drew1) | exact HB.out))) : w.heap.size ≤ gb321)); have n4_ := Aside0.mk ((by rw [hg]; exact (below_size (by repeat (first | (with_reducible first | exact HB.out | apply below_alloc | apply pw_below_drewN | apply below_drew1) | exact HB.out))) : w.heap.size ≤ gb321)); clear HO318; clear HB; have HO318 := n0_; have HB := n1_; have BK321 := n2_; have GW321 := n3_; have GE321 := n4_; clear n0_ n1_ n2_ n3_ n4_; clear hb hbox hg; have hcz29_0 : w28.cell? ⟨gb321, 0, none⟩ = some (.int .i64 0) := (blk_cell BK321.out 0).trans rfl; have hcz29_1 : w28.cell? ⟨gb321, 1, none⟩ = some (.int .i64 0) := (blk_cell BK321.out 1).trans rfl; have hcz29_2 : w28.cell? ⟨gb321, 2, none⟩ = some (.slice none 0 0) := (blk_cell BK321.out 2).trans rfl; have hfz29_0 := blk_frozen BK321.out; obtain ⟨Ao30, co30, eo30⟩ := Kd.S_slice HO318.out; subst eo30))
             (try simp only [Act.put, List.setIfInBounds_toArray, List.set_cons_zero, List.set_cons_succ])
             go_cut [93] (fun v93 wc => ∃ (kq : Nat) (x93_25 : Bool), v93 = .bool x93_25 ∧ Aside0 (fairleadlaw10_ParseMany.j5 kq t313 x8_3 x11_18 t319 x93_25 t314 t315 t316 = some r) ∧ Aside0 (kq ≤ kj18) ∧ Aside0 (Kd.S k44 44 wc w.heap.size (fun _ => True) (.slice Ao30 t316.length co30) t316) ∧ Aside0 (wc.heap[gb321]? = some (.cells #[.int .i64 t314, .int .i64 t315, (.slice Ao30 t316.length co30)] 27 (0, 0))) ∧ Aside0 (Below w.heap.size w wc))
             case first =>
              have H := HC26.out
              clear HC26
              by_cases c31 : a0 > 0
              ·rw [if_pos c31] at H
               have c31b0 : decide (0 < a0) = true := decide_eq_true c31
               clear c31
               (first | rw [c31b0] | (simp only [i64_w, i32_w]; rw [c31b0]) | skip)
               by_cases c32 : a1 > 16
               ·rw [if_pos c32] at H
                have c32b0 : decide (16 < a1) = true := decide_eq_true c32
                clear c32
                have H' := Aside0.mk H
                clear H
                go_wp2
                go_meet
                case rel => exact ⟨_, (true), (by first | rfl | (simp; done) | (simp [*]; done)), H', ⟨by have := HJ4.out; have := HK2.out; have := HK3.out; have := HJ18.out; first | omega | exact Nat.le_refl _⟩, ⟨by (with_reducible repeat (first | apply Kd.S_alloc | apply Kd.S_drewN | apply Kd.S_drew)); exact Kd.S_mono (Kd.S_far (p := ⟨gb321, 2, none⟩) (Kd.S_far (p := ⟨gb321, 1, none⟩) (Kd.S_far (p := ⟨gb321, 0, none⟩) (Kd.S_types HO318.out BK321.out (by decide)) (fun _ hk => by first | exact hk.2 | exact hk | exact trivial) (.int .i64 t314)) (fun _ hk => by first | exact hk.2 | exact hk | exact trivial) (.int .i64 t315)) (fun _ hk => by first | exact hk.2 | exact hk | exact trivial) (.slice Ao30 t316.length co30)) (fun _ hk => trivial)⟩, ⟨by (with_reducible repeat (first | refine blk_drewN ?_ _ | refine blk_drew ?_ | refine blk_alloc ?_ _)); refine blk_put (cs := #[.int .i64 t314, .int .i64 t315, .slice none 0 0]) ?_ 2 _ rfl; (with_reducible repeat (first | refine blk_drewN ?_ _ | refine blk_drew ?_ | refine blk_alloc ?_ _)); refine blk_put (cs := #[.int .i64 t314, .int .i64 0, .slice none 0 0]) ?_ 1 _ rfl; (with_reducible repeat (first | refine blk_drewN ?_ _ | refine blk_drew ?_ | refine blk_alloc ?_ _)); refine blk_put (cs := #[.int .i64 0, .int .i64 0, .slice none 0 0]) ?_ 0 _ rfl; (with_reducible repeat (first | refine blk_drewN ?_ _ | refine blk_drew ?_ | refine blk_alloc ?_ _)); exact BK321.out⟩, ⟨by repeat (first | (with_reducible first | exact HB.out | apply below_alloc | apply pw_below_drewN | apply below_drew1 | refine below_set ?_ GE321.out) | exact HB.out)⟩⟩
               ·rw [if_neg c32] at H
                have c32b0 : decide (16 < a1) = false := decide_eq_false c32
                clear c32
                have H' := Aside0.mk H
                clear H
                go_wp2
                go_meet
                case rel => exact ⟨_, (decide (a2 > 8)), (by first | rfl | (simp; done) | (simp [*]; done)), H', ⟨by have := HJ4.out; have := HK2.out; have := HK3.out; have := HJ18.out; first | omega | exact Nat.le_refl _⟩, ⟨by (with_reducible repeat (first | apply Kd.S_alloc | apply Kd.S_drewN | apply Kd.S_drew)); exact Kd.S_mono (Kd.S_far (p := ⟨gb321, 2, none⟩) (Kd.S_far (p := ⟨gb321, 1, none⟩) (Kd.S_far (p := ⟨gb321, 0, none⟩) (Kd.S_types HO318.out BK321.out (by decide)) (fun _ hk => by first | exact hk.2 | exact hk | exact trivial) (.int .i64 t314)) (fun _ hk => by first | exact hk.2 | exact hk | exact trivial) (.int .i64 t315)) (fun _ hk => by first | exact hk.2 | exact hk | exact trivial) (.slice Ao30 t316.length co30)) (fun _ hk => trivial)⟩, ⟨by (with_reducible repeat (first | refine blk_drewN ?_ _ | refine blk_drew ?_ | refine blk_alloc ?_ _)); refine blk_put (cs := #[.int .i64 t314, .int .i64 t315, .slice none 0 0]) ?_ 2 _ rfl; (with_reducible repeat (first | refine blk_drewN ?_ _ | refine blk_drew ?_ | refine blk_alloc ?_ _)); refine blk_put (cs := #[.int .i64 t314, .int .i64 0, .slice none 0 0]) ?_ 1 _ rfl; (with_reducible repeat (first | refine blk_drewN ?_ _ | refine blk_drew ?_ | refine blk_alloc ?_ _)); refine blk_put (cs := #[.int .i64 0, .int .i64 0, .slice none 0 0]) ?_ 0 _ rfl; (with_reducible repeat (first | refine blk_drewN ?_ _ | refine blk_drew ?_ | refine blk_alloc ?_ _)); exact BK321.out⟩, ⟨by repeat (first | (with_reducible first | exact HB.out | apply below_alloc | apply pw_below_drewN | apply below_drew1 | refine below_set ?_ GE321.out) | exact HB.out)⟩⟩
              ·rw [if_neg c31] at H
               have c31b0 : decide (0 < a0) = false := decide_eq_false c31
               clear c31
               (first | rw [c31b0] | (simp only [i64_w, i32_w]; rw [c31b0]) | skip)
               have H' := Aside0.mk H
               clear H
               go_wp2
               go_meet
               case rel => exact ⟨_, (false), (by first | rfl | (simp; done) | (simp [*]; done)), H', ⟨by have := HJ4.out; have := HK2.out; have := HK3.out; have := HJ18.out; first | omega | exact Nat.le_refl _⟩, ⟨by (with_reducible repeat (first | apply Kd.S_alloc | apply Kd.S_drewN | apply Kd.S_drew)); exact Kd.S_mono (Kd.S_far (p := ⟨gb321, 2, none⟩) (Kd.S_far (p := ⟨gb321, 1, none⟩) (Kd.S_far (p := ⟨gb321, 0, none⟩) (Kd.S_types HO318.out BK321.out (by decide)) (fun _ hk => by first | exact hk.2 | exact hk | exact trivial) (.int .i64 t314)) (fun _ hk => by first | exact hk.2 | exact hk | exact trivial) (.int .i64 t315)) (fun _ hk => by first | exact hk.2 | exact hk | exact trivial) (.slice Ao30 t316.length co30)) (fun _ hk => trivial)⟩, ⟨by (with_reducible repeat (first | refine blk_drewN ?_ _ | refine blk_drew ?_ | refine blk_alloc ?_ _)); refine blk_put (cs := #[.int .i64 t314, .int .i64 t315, .slice none 0 0]) ?_ 2 _ rfl; (with_reducible repeat (first | refine blk_drewN ?_ _ | refine blk_drew ?_ | refine blk_alloc ?_ _)); refine blk_put (cs := #[.int .i64 t314, .int .i64 0, .slice none 0 0]) ?_ 1 _ rfl; (with_reducible repeat (first | refine blk_drewN ?_ _ | refine blk_drew ?_ | refine blk_alloc ?_ _)); refine blk_put (cs := #[.int .i64 0, .int .i64 0, .slice none 0 0]) ?_ 0 _ rfl; (with_reducible repeat (first | refine blk_drewN ?_ _ | refine blk_drew ?_ | refine blk_alloc ?_ _)); exact BK321.out⟩, ⟨by repeat (first | (with_reducible first | exact HB.out | apply below_alloc | apply pw_below_drewN | apply below_drew1 | refine below_set ?_ GE321.out) | exact HB.out)⟩⟩
             case rest =>
              clear HC26
              try clear c1
              try clear c2
              try clear p2
              try clear c3
              try clear p6
              try clear c7
              try clear c7b0
              try clear c8
              try clear c8b0
              try clear c9
              try clear c9b0
              try clear c10
              try clear c10b0
              try clear c11
              try clear c11b0
              try clear c12
              try clear c13
              try clear c13b0
              try clear c14
              try clear c14b0
              try clear c14b1
              try clear c14b2
              try clear c15
              try clear c15b0
              try clear c16
              try clear c16b0
              try clear c16b1
              try clear c17
              try clear c17b0
              try clear c17b1
              try clear c17b2
              try clear c18
              try clear c18b0
              try clear c18b1
              try clear c18b2
              try clear c20
              try clear c20b0
              try clear c21
              try clear c21b0
              try clear c21b1
              try clear c22
              try clear c22b0
              try clear c22b1
              try clear c22b2
              try clear c23
              try clear c23b0
              try clear c23b1
              try clear c23b2
              try clear c24
              try clear c24b0
              try clear c24b1
              try clear c31
              try clear c31b0
              try clear c32
              try clear c32b0
              try clear hcz29_0 hcz29_1 hcz29_2
              try clear hfz29_0
              try clear p2
              try clear p6
              obtain ⟨kq, x93_25, rfl, HA, HJ25, HO_322002, BK321, HB⟩ := hcut
              cases kq with
              | zero => exact absurd HA.out (by simp [fairleadlaw10_ParseMany.j5])
              | succ kj25 =>
               have H := HA.out
               clear HA
               simp only [fairleadlaw10_ParseMany.j5] at H
               by_cases c33 : x93_25 = true
               ·subst c33
                have H1 : (if t313 = true then (some (t319 == 4)) else (some false)) = some r := by rw [if_pos rfl] at H; exact H
                clear H
                have H := H1
                clear H1
                by_cases c34 : t313 = true
                ·subst c34
                 have H1 : (some (t319 == 4)) = some r := by rw [if_pos rfl] at H; exact H
                 clear H
                 have H := H1
                 clear H1
                 obtain rfl := Option.some.inj H
                 go_wp2
                 go_ret
                 exact ⟨by first | rfl | (simp [errW_none, errW_some] <;> rfl) | (simp [*, errW_none, errW_some] <;> rfl), by repeat (first | (with_reducible first | exact HB.out | apply below_alloc | apply pw_below_drewN | apply below_drew1 | refine below_set ?_ GE321.out) | exact HB.out)⟩
                ·replace c34 := Bool.eq_false_iff.mpr c34
                 subst c34
                 have H1 : (some false) = some r := by rw [if_neg (show ¬ (false = true) by decide)] at H; exact H
                 clear H
                 have H := H1
                 clear H1
                 obtain rfl := Option.some.inj H
                 go_wp2
                 go_ret
                 exact ⟨by first | rfl | (simp [errW_none, errW_some] <;> rfl) | (simp [*, errW_none, errW_some] <;> rfl), by repeat (first | (with_reducible first | exact HB.out | apply below_alloc | apply pw_below_drewN | apply below_drew1 | refine below_set ?_ GE321.out) | exact HB.out)⟩
               ·replace c33 := Bool.eq_false_iff.mpr c33
                subst c33
                have H1 : (fairleadlaw10_ParseMany.l3 kj25 t313 x8_3 x11_18 t319 0 12 t314 t315 t316) = some r := by rw [if_neg (show ¬ (false = true) by decide)] at H; exact H
                clear H
                have H := H1
                clear H1
                have H' := Aside0.mk H
                clear H
                go_wp2
                go_loopg [16, 17] kj25 (fun kq v16 v17 w' => ∃ (x16_6 : Int) (x17_6 : Int), v16 = .int .i64 x16_6 ∧ v17 = .int .i64 x17_6 ∧ Aside0 (fairleadlaw10_ParseMany.l3 kq t313 x8_3 x11_18 t319 x16_6 x17_6 t314 t315 t316 = some r) ∧ Aside0 (kq ≤ kj25) ∧ Aside0 (Kd.S k44 44 w' w.heap.size (fun _ => True) (.slice Ao30 t316.length co30) t316) ∧ Aside0 (w'.heap[gb321]? = some (.cells #[.int .i64 t314, .int .i64 t315, (.slice Ao30 t316.length co30)] 27 (0, 0))) ∧ Aside0 (Below w.heap.size w w'))
                case atStart => exact ⟨(0), (12), (by first | rfl | (simp; done) | (simp [*]; done)), (by first | rfl | (simp; done) | (simp [*]; done)), H', ⟨Nat.le_refl _⟩, ⟨by (with_reducible repeat (first | apply Kd.S_alloc | apply Kd.S_drewN | apply Kd.S_drew)); exact HO_322002.out⟩, ⟨by (with_reducible repeat (first | refine blk_drewN ?_ _ | refine blk_drew ?_ | refine blk_alloc ?_ _)); exact BK321.out⟩, ⟨by repeat (first | (with_reducible first | exact HB.out | apply below_alloc | apply pw_below_drewN | apply below_drew1 | refine below_set ?_ GE321.out) | exact HB.out)⟩⟩
                case round =>
                 clear H'
                 try clear c1
                 try clear c2
                 try clear p2
                 try clear c3
                 try clear p6
                 try clear c7
                 try clear c7b0
                 try clear c8
                 try clear c8b0
                 try clear c9
                 try clear c9b0
                 try clear c10
                 try clear c10b0
                 try clear c11
                 try clear c11b0
                 try clear c12
                 try clear c13
                 try clear c13b0
                 try clear c14
                 try clear c14b0
                 try clear c14b1
                 try clear c14b2
                 try clear c15
                 try clear c15b0
                 try clear c16
                 try clear c16b0
                 try clear c16b1
                 try clear c17
                 try clear c17b0
                 try clear c17b1
                 try clear c17b2
                 try clear c18
                 try clear c18b0
                 try clear c18b1
                 try clear c18b2
                 try clear c20
                 try clear c20b0
                 try clear c21
                 try clear c21b0
                 try clear c21b1
                 try clear c22
                 try clear c22b0
                 try clear c22b1
                 try clear c22b2
                 try clear c23
                 try clear c23b0
                 try clear c23b1
                 try clear c23b2
                 try clear c24
                 try clear c24b0
                 try clear c24b1
                 try clear c31
                 try clear c31b0
                 try clear c32
                 try clear c32b0
                 try clear c33
                 try clear c34
                 try clear hcz29_0 hcz29_1 hcz29_2
                 try clear hfz29_0
                 try clear p2
                 try clear p6
                 obtain ⟨x16_6, x17_6, rfl, rfl, HA, HK6, HO_322002, BK321, HB⟩ := hrel
                 cases gk with
                 | zero => exact absurd HA.out (by simp [fairleadlaw10_ParseMany.l3])
                 | succ k6 =>
                  have H := HA.out
                  clear HA
                  simp only [fairleadlaw10_ParseMany.l3] at H
                  by_cases c35 : x17_6 < (x11_18.size : Int)
                  ·rw [if_pos c35] at H
                   have c35b0 : decide (x17_6 < (x11_18.size : Int)) = true := decide_eq_true c35
                   clear c35
                   have H' := Aside0.mk H
                   clear H
                   go_wp2
                   go_roundg k6
                   case measure => have := HJ4.out; have := HK2.out; have := HK3.out; have := HJ18.out; have := HJ25.out; have := HK6.out; omega
                   case rel => exact ⟨(wrap64 (x16_6 + 1)), (wrap64 ((wrap64 (x17_6 + (x8_3.size : Int))) + 1)), (by first | rfl | (simp; done) | (simp [*]; done)), (by first | rfl | (simp; done) | (simp [*]; done)), H', ⟨by have := HJ4.out; have := HK2.out; have := HK3.out; have := HJ18.out; have := HJ25.out; have := HK6.out; omega⟩, ⟨by (with_reducible repeat (first | apply Kd.S_alloc | apply Kd.S_drewN | apply Kd.S_drew)); exact HO_322002.out⟩, ⟨by (with_reducible repeat (first | refine blk_drewN ?_ _ | refine blk_drew ?_ | refine blk_alloc ?_ _)); exact BK321.out⟩, ⟨by repeat (first | (with_reducible first | exact HB.out | apply below_alloc | apply pw_below_drewN | apply below_drew1 | refine below_set ?_ GE321.out) | exact HB.out)⟩⟩
                  ·rw [if_neg c35] at H
                   have c35b0 : decide (x17_6 < (x11_18.size : Int)) = false := decide_eq_false c35
                   clear c35
                   by_cases c36 : x16_6 > 64
                   ·rw [if_pos c36] at H
                    have c36b0 : decide (64 < x16_6) = true := decide_eq_true c36
                    clear c36
                    by_cases c37 : t313 = true
                    ·subst c37
                     have H1 : (some (t319 == 4)) = some r := by rw [if_pos rfl] at H; exact H
                     clear H
                     have H := H1
                     clear H1
                     obtain rfl := Option.some.inj H
                     go_wp2
                     go_ret
                     exact ⟨by first | rfl | (simp [errW_none, errW_some] <;> rfl) | (simp [*, errW_none, errW_some] <;> rfl), by repeat (first | (with_reducible first | exact HB.out | apply below_alloc | apply pw_below_drewN | apply below_drew1 | refine below_set ?_ GE321.out) | exact HB.out)⟩
                    ·replace c37 := Bool.eq_false_iff.mpr c37
                     subst c37
                     have H1 : (some false) = some r := by rw [if_neg (show ¬ (false = true) by decide)] at H; exact H
                     clear H
                     have H := H1
                     clear H1
                     obtain rfl := Option.some.inj H
                     go_wp2
                     go_ret
                     exact ⟨by first | rfl | (simp [errW_none, errW_some] <;> rfl) | (simp [*, errW_none, errW_some] <;> rfl), by repeat (first | (with_reducible first | exact HB.out | apply below_alloc | apply pw_below_drewN | apply below_drew1 | refine below_set ?_ GE321.out) | exact HB.out)⟩
                   ·rw [if_neg c36] at H
                    have c36b0 : decide (64 < x16_6) = false := decide_eq_false c36
                    clear c36
                    by_cases c38 : t313 = true
                    ·subst c38
                     have H1 : (if t319 = 0 then (some ((t316.length : Int) == x16_6)) else (some false)) = some r := by rw [if_pos rfl] at H; exact H
                     clear H
                     have H := H1
                     clear H1
                     by_cases c39 : t319 = 0
                     ·rw [if_pos c39] at H
                      have c39b0 : (t319 == 0) = true := beq_iff_eq.mpr c39
                      have c39b1 : (t319 != 0) = false := bne_eq_false_iff_eq.mpr c39
                      clear c39
                      obtain rfl := Option.some.inj H
                      have hcz40_0 : wr.cell? ⟨gb321, 0, none⟩ = some (.int .i64 t314) := (blk_cell BK321.out 0).trans rfl
                      have hcz40_1 : wr.cell? ⟨gb321, 1, none⟩ = some (.int .i64 t315) := (blk_cell BK321.out 1).trans rfl
                      have hcz40_2 : wr.cell? ⟨gb321, 2, none⟩ = some (.slice Ao30 t316.length co30) := (blk_cell BK321.out 2).trans rfl
                      have hfz40_0 := blk_frozen BK321.out
                      go_wp2
                      go_ret
                      exact ⟨by first | rfl | (simp [errW_none, errW_some] <;> rfl) | (simp [*, errW_none, errW_some] <;> rfl), by repeat (first | (with_reducible first | exact HB.out | apply below_alloc | apply pw_below_drewN | apply below_drew1 | refine below_set ?_ GE321.out) | exact HB.out)⟩
                     ·rw [if_neg c39] at H
                      have c39b0 : (t319 == 0) = false := beq_eq_false_iff_ne.mpr c39
                      have c39b1 : (t319 != 0) = true := bne_iff_ne.mpr c39
                      obtain rfl := Option.some.inj H
                      go_wp2
                      go_ret
                      exact ⟨by first | rfl | (simp [errW_none, errW_some] <;> rfl) | (simp [*, errW_none, errW_some] <;> rfl), by repeat (first | (with_reducible first | exact HB.out | apply below_alloc | apply pw_below_drewN | apply below_drew1 | refine below_set ?_ GE321.out) | exact HB.out)⟩
                    ·replace c38 := Bool.eq_false_iff.mpr c38
                     subst c38
                     have H1 : (some false) = some r := by rw [if_neg (show ¬ (false = true) by decide)] at H; exact H
                     clear H
                     have H := H1
                     clear H1
                     obtain rfl := Option.some.inj H
                     go_wp2
                     go_ret
                     exact ⟨by first | rfl | (simp [errW_none, errW_some] <;> rfl) | (simp [*, errW_none, errW_some] <;> rfl), by repeat (first | (with_reducible first | exact HB.out | apply below_alloc | apply pw_below_drewN | apply below_drew1 | refine below_set ?_ GE321.out) | exact HB.out)⟩

/-- What is to be shown of fairleadlaw10_ParseMany, without Go and memory. -/
def fairleadlaw10_ParseMany.Pure : Prop := ∀ (a0 : Int) (a1 : Int) (a2 : Int), ((-9223372036854775808) ≤ a0 ∧ a0 ≤ 9223372036854775807) → ((-9223372036854775808) ≤ a1 ∧ a1 ≤ 9223372036854775807) → ((-9223372036854775808) ≤ a2 ∧ a2 ≤ 9223372036854775807) → ∃ k, fairleadlaw10_ParseMany.f k a0 a1 a2 = some true

end Go.Proofs.Ytfahchgglapglaa.M
