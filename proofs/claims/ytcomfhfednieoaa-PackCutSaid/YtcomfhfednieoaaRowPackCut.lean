/- The statement PackCutSaid: for every input the law answers true, and its arguments read afterwards as before. No condition beyond the row's own. -/
import Derived.Test.YtcomfhfednieoaaRows
import Derived.Test.YtcomfhfednieoaaMx15
import Derived.Test.YtcomfhfednieoaaPurePackCut
import Derived.Test.YtcomfhfednieoaaOpn
import Derived.WalkKit
import Derived.ProofKit
import Derived.OpenShut
import Derived.ShutString
import Derived.ChangeOld
import Derived.Below
import Derived.SizedLaws
namespace Go.Proofs.Ytcomfhfednieoaa.packCut
open Go.ChangeShapes Go.WideShapes Go.ChangeAt Go.RowKit Go.Proofs.Ytcomfhfednieoaa.M Go.Proofs.Ytcomfhfednieoaa.Opn Go.Proofs.YtcomfhfednieoaaW.PrintWords
open Go.ChangeMaps (open_string shut_string)
set_option linter.unusedVariables false
set_option linter.unusedSimpArgs false
theorem own : ownKnob Try.prog.godebug = none := by kernel_rfl
theorem laidOut : laidOutB Try.prog = true := by kernel_rfl
set_option maxRecDepth 100000 in
theorem lifted (os : Os) (started : os.Started) (H : Type) (enc : TypeId × Value → H) :
    ReturnsInHanded {} Try.checked os 8 .any (Rows.packCutSpec.pre6 enc Try.prog Try.f8 Rows.packCutRow.domain false) (Rows.packCutSpec.post enc Try.prog Try.f8 false true false false) := by
  refine returnsInHanded_of_change_sized (C := Try.checked) own started (by kernel_rfl) Try.func8
    (ChangeSpec.witness6 (enc := enc) (C := Try.checked) false ⟨#[], #[.slice none 0 0, .int .i64 0], []⟩ 8 (by kernel_rfl) (by kernel_rfl) (by kernel_rfl) (by kernel_rfl)) ?_
  intro W base args ds gs before hval0 hW hcnd hsz0 _
  have hval : ∀ (j : Nat) t v, Try.f8.params[j]? = some t → args[j]? = some v → Value.okWide Try.prog W .any base t v := hval0
  have hW' := hW
  obtain ⟨p, q, hA0, hV, rfl, hfz, hnd⟩ := hW
  have hA : DataW.TrodAll enc Try.prog W 0 (fun _ => true) true Try.f8.params.toList args.toList ds p := hA0
  rw [Try.params8] at hA hval
  obtain ⟨v0, vs0, d0, ds0, p0, q0, hargs, rfl, rfl, h0, r0⟩ := trodAll_cons hA
  obtain ⟨v1, vs1, d1, ds1, p1, q1, rfl, rfl, rfl, h1, r1⟩ := trodAll_cons r0
  obtain ⟨rfl, rfl, rfl⟩ := trodAll_nil r1
  obtain rfl : args = #[v0, v1] := by cases args; simp_all
  obtain ⟨rfl, rfl⟩ := trodVars_none hV
  have k0 := h0
  have lt0 : ∀ x ∈ p0, x.block < W.heap.size := by obtain ⟨m, hm⟩ := k0; exact DataW.trod_lt m _ _ _ hm
  obtain ⟨A0, n0, c0, rfl⟩ := okWide_slice Try.underlying22 (hval 0 22 v0 rfl rfl)
  obtain ⟨fuel0, hf0⟩ := h0
  obtain ⟨l0, ⟨A0', c0', e0, hc0, hr0⟩, hV0⟩ := (opens_slice 32 Try.underlying22 (by kernel_rfl) (opens_iso (fun x : S32 => (x.f0, x.f1, x.f2, x.f3)) (fun a => ⟨a.1, a.2.1, a.2.2.1, a.2.2.2⟩) (fun _ => rfl) (opens_struct Try.underlying32 (by kernel_rfl) (opensL_cons (by kernel_rfl) (opens_u64 Try.underlying30) (opensL_cons (by kernel_rfl) (opens_i64 Try.underlying3) (opensL_cons (by kernel_rfl) (opens_bool Try.underlying4) (opensL_last (by kernel_rfl) (opens_string Try.underlying9)))))))) _ _ _ _ _ _ _ _ _ hf0
  simp [Value.cells] at e0
  obtain ⟨rfl, rfl, rfl⟩ := e0
  have k1 := h1
  have lt1 : ∀ x ∈ p1, x.block < W.heap.size := by obtain ⟨m, hm⟩ := k1; exact DataW.trod_lt m _ _ _ hm
  obtain ⟨a1, rfl, rfl, rfl, hw1⟩ := open_int Try.underlying3 (hval 1 3 v1 rfl rfl) h1
  have hV1 := wfb_i64 hw1
  obtain ⟨k, hP⟩ := Pure.PackCut l0 a1 hV0 hV1
  refine Calls.mono (show Calls Try.prog 8 #[.slice A0 l0.length c0, .int .i64 a1] W _ from fairleadlaw02_PackCut.calls k _ _ l0 a1 true W hr0 hc0 hP) (fun e W' hp => ?_)
  obtain ⟨he, bel0⟩ := hp
  have bel := bel0
  subst he
  exact ⟨_, rfl, _, _, _, [], _, [], hW', trodAll_mk1 (shut_bool Try.underlying4 _), (trodAll_cons_mk (Below.trod laidOut (by kernel_rfl) (of_decide_eq_true (by kernel_rfl)) k0 bel lt0) (trodAll_cons_mk (Below.trod laidOut (by kernel_rfl) (of_decide_eq_true (by kernel_rfl)) k1 bel lt1) trodAll_mk0)), rfl, bel.frame _, fun h => by cases h⟩
theorem over : Rows.packCutRow.holds Try.pinned (OpenSpec.ofChange Rows.packCutSpec) :=
  OpenClaim.holds_of_wide 8 Try.f8 rfl rfl rfl rfl rfl rfl rfl ⟨rfl, rfl, rfl, rfl, rfl⟩ rfl rfl rfl rfl rfl (by kernel_rfl) Try.func8 (by kernel_rfl)
    (of_decide_eq_true (by kernel_rfl)) (by unfold Func.isWrapper; first | (rw [if_pos (by decide +kernel)]; kernel_rfl) | (rw [if_neg (by decide +kernel)]; exact ⟨rfl, rfl⟩))
    (fun os started H enc _ => lifted os started H enc)
theorem proved : Rows.PackCutSaid := over
#print axioms proved
end Go.Proofs.Ytcomfhfednieoaa.packCut
namespace Go.Proofs.Ytcomfhfednieoaa
/-- The row, under a short name, for the claim. -/
theorem packCut_holds : Rows.PackCutSaid := packCut.proved
end Go.Proofs.Ytcomfhfednieoaa
