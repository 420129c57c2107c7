-- Laid by a program (wip/tools/myprint.py) out of the loaded program's own print: for each Go function a Lean function and the proof of its contract.
import Derived.Test.YtadglbmghldnfaaMx0
import Derived.Test.YtadglbmghldnfaaMx7
namespace Go.Proofs.Ytadglbmghldnfaa.M
open Go.RowKit Go.Proofs.YtadglbmghldnfaaW.PrintWords Go.Proofs.YtadglbmghldnfaaW.PrintLast Go.Proofs.YtadglbmghldnfaaW.PrintMore
attribute [local go_sem] max2_int min2_int max_two min_two max_three min_three max_four min_four   -- for this text's walks alone
set_option linter.unusedVariables false
set_option linter.unusedSimpArgs false

/-! ### pack_Reader_End: function 28 -/
-- HAND rounds=False making=True
def pack_Reader_End.f (s0_0 : List Int) (s0_1 : Int) : Option (Int × List Int × Int) := some (if s0_1 = 0 then (if s0_0.length = 0 then 0 else 3) else s0_1, s0_0, s0_1)
set_option maxHeartbeats 8000000 in
set_option maxRecDepth 100000 in
theorem pkr_End.calls (g : Nat) (L : List Int) (e : Int) (w0 w : World) (hI : Mine.IsR 73 5 w0 w g L e) :
    Calls Try.prog 28 #[.pointer (some ⟨g, 0, none⟩)] w fun r w' => r = .returned (.int .i64 (if e = 0 then (if L.length = 0 then 0 else 3) else e)) ∧ Mine.IsR 73 5 w0 w' g L e ∧ Mine.Bar (fun k => k = g) w w' := by
  have HI := Aside0.mk hI
  obtain ⟨A0, c0, hg, hge, hL⟩ := hI
  have x0 : w.cell? ⟨g, 0, none⟩ = some (.slice A0 L.length c0) := (blk_cell hg 0).trans rfl
  have x1 : w.cell? ⟨g, 1, none⟩ = some (.int .i64 e) := (blk_cell hg 1).trans rfl
  clear hg hL
  by_cases he : e = 0
  · subst he
    by_cases hl : L.length = 0
    · rw [if_pos rfl, if_pos hl]
      have b0 : decide (0 < (L.length : Int)) = false := decide_eq_false (by omega)
      have b1 : decide (0 < L.length) = false := decide_eq_false (by omega)
      clear hl
      go_enter Try.func28, Try.ntmps28
      go_wp2
      (repeat (go_step3; (try go_wp2)))
      go_ret
      exact ⟨rfl, HI.out, Mine.Bar.refl _ _⟩
    · rw [if_pos rfl, if_neg hl]
      have b0 : decide (0 < (L.length : Int)) = true := decide_eq_true (by omega)
      have b1 : decide (0 < L.length) = true := decide_eq_true (by omega)
      clear hl
      go_enter Try.func28, Try.ntmps28
      go_wp2
      (repeat (go_step3; (try go_wp2)))
      go_ret
      exact ⟨rfl, HI.out, Mine.Bar.refl _ _⟩
  · rw [if_neg he]
    have b0 : (e == 0) = false := beq_eq_false_iff_ne.2 he
    go_enter Try.func28, Try.ntmps28
    go_wp2
    (repeat (go_step3; (try go_wp2)))
    go_ret
    exact ⟨rfl, HI.out, Mine.Bar.refl _ _⟩
theorem pack_Reader_End.calls (g : Nat) (s0_0 : List Int) (s0_1 : Int) (r1 : Int) (r2 : List Int) (r3 : Int) (w0 w : World) (hI : IsS73 w0 w g s0_0 s0_1) (hB : Below w0.heap.size w0 w) (h : pack_Reader_End.f s0_0 s0_1 = some (r1, r2, r3)) :
    Calls Try.prog 28 #[.pointer (some ⟨g, 0, none⟩)] w fun e w' => e = .returned (.int .i64 r1) ∧ IsS73 w0 w' g r2 r3 ∧ Below w0.heap.size w0 w' ∧ KeepBut w w' g none := by
  unfold pack_Reader_End.f at h
  obtain ⟨h1, h2⟩ := Prod.mk.inj (Option.some.inj h)
  obtain ⟨h2, h3⟩ := Prod.mk.inj h2
  subst h1 h2 h3
  refine (pkr_End.calls g s0_0 s0_1 w0 w hI).mono (fun e w' hp => ?_)
  exact ⟨hp.1, hp.2.1, hB.trans (hp.2.2.below (fun k hk h2 => by have := Mine.IsR.ge hI; omega) hB.size), hp.2.2.keep (fun k hk h2 => h2)⟩

end Go.Proofs.Ytadglbmghldnfaa.M
