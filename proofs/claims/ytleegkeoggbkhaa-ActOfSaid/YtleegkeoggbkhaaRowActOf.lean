/- The statement ActOfSaid: for every input the law answers true, and its arguments read afterwards as before. No condition beyond the row's own. -/
import Derived.Test.YtleegkeoggbkhaaRows
import Derived.Test.YtleegkeoggbkhaaMx5
import Derived.Test.YtleegkeoggbkhaaPureActOf
import Derived.Test.YtleegkeoggbkhaaOpn
import Derived.WalkKit
import Derived.ProofKit
import Derived.OpenShut
import Derived.ShutString
import Derived.ChangeOld
import Derived.Below
import Derived.SizedLaws
namespace Go.Proofs.Ytleegkeoggbkhaa.actOf
open Go.ChangeShapes Go.WideShapes Go.ChangeAt Go.RowKit Go.Proofs.Ytleegkeoggbkhaa.M Go.Proofs.Ytleegkeoggbkhaa.Opn Go.Proofs.YtleegkeoggbkhaaW.PrintWords
open Go.ChangeMaps (open_string shut_string)
set_option linter.unusedVariables false
set_option linter.unusedSimpArgs false
theorem own : ownKnob Try.prog.godebug = none := by kernel_rfl
theorem laidOut : laidOutB Try.prog = true := by kernel_rfl
set_option maxRecDepth 100000 in
theorem lifted (os : Os) (started : os.Started) (H : Type) (enc : TypeId × Value → H) :
    ReturnsInHanded {} Try.checked os 4 .any (Rows.actOfSpec.pre6 enc Try.prog Try.f4 Rows.actOfRow.domain false) (Rows.actOfSpec.post enc Try.prog Try.f4 false true false false) := by
  refine returnsInHanded_of_change_sized (C := Try.checked) own started (by kernel_rfl) Try.func4
    (ChangeSpec.witness6 (enc := enc) (C := Try.checked) false ⟨#[], #[.int .u32 0], []⟩ 8 (by kernel_rfl) (by kernel_rfl) (by kernel_rfl) (by kernel_rfl)) ?_
  intro W base args ds gs before hval0 hW hcnd hsz0 _
  have hval : ∀ (j : Nat) t v, Try.f4.params[j]? = some t → args[j]? = some v → Value.okWide Try.prog W .any base t v := hval0
  have hW' := hW
  obtain ⟨p, q, hA0, hV, rfl, hfz, hnd⟩ := hW
  have hA : DataW.TrodAll enc Try.prog W 0 (fun _ => true) true Try.f4.params.toList args.toList ds p := hA0
  rw [Try.params4] at hA hval
  obtain ⟨v0, vs0, d0, ds0, p0, q0, hargs, rfl, rfl, h0, r0⟩ := trodAll_cons hA
  obtain ⟨rfl, rfl, rfl⟩ := trodAll_nil r0
  obtain rfl : args = #[v0] := by cases args; simp_all
  obtain ⟨rfl, rfl⟩ := trodVars_none hV
  have k0 := h0
  have lt0 : ∀ x ∈ p0, x.block < W.heap.size := by obtain ⟨m, hm⟩ := k0; exact DataW.trod_lt m _ _ _ hm
  obtain ⟨a0, rfl, rfl, rfl, hw0⟩ := open_int Try.underlying25 (hval 0 25 v0 rfl rfl) h0
  have hV0 := wfb_u32 hw0
  obtain ⟨k, hP⟩ := Pure.ActOf a0 hV0
  refine Calls.mono (show Calls Try.prog 4 #[.int .u32 a0] W _ from fairleadlaw07_ActOf.calls k a0 true W hP) (fun e W' hp => ?_)
  obtain ⟨he, bel0⟩ := hp
  have bel := bel0
  subst he
  exact ⟨_, rfl, _, _, _, [], _, [], hW', trodAll_mk1 (shut_bool Try.underlying4 _), (trodAll_cons_mk (Below.trod laidOut (by kernel_rfl) (of_decide_eq_true (by kernel_rfl)) k0 bel lt0) trodAll_mk0), rfl, bel.frame _, fun h => by cases h⟩
theorem over : Rows.actOfRow.holds Try.pinned (OpenSpec.ofChange Rows.actOfSpec) :=
  OpenClaim.holds_of_wide 4 Try.f4 rfl rfl rfl rfl rfl rfl rfl ⟨rfl, rfl, rfl, rfl, rfl⟩ rfl rfl rfl rfl rfl (by kernel_rfl) Try.func4 (by kernel_rfl)
    (of_decide_eq_true (by kernel_rfl)) (by unfold Func.isWrapper; first | (rw [if_pos (by decide +kernel)]; kernel_rfl) | (rw [if_neg (by decide +kernel)]; exact ⟨rfl, rfl⟩))
    (fun os started H enc _ => lifted os started H enc)
theorem proved : Rows.ActOfSaid := over
#print axioms proved
end Go.Proofs.Ytleegkeoggbkhaa.actOf
namespace Go.Proofs.Ytleegkeoggbkhaa
/-- The row, under a short name, for the claim. -/
theorem actOf_holds : Rows.ActOfSaid := actOf.proved
end Go.Proofs.Ytleegkeoggbkhaa
