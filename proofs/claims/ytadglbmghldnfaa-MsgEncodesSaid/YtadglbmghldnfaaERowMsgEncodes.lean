/- The statement MsgEncodesSaid: for every input the law answers true, and its arguments read afterwards as before. No condition beyond the row's own. -/
import Derived.Test.YtadglbmghldnfaaRows
import Derived.Test.YtadglbmghldnfaaEMx16
import Derived.Test.YtadglbmghldnfaaEPureMsgEncodes
import Derived.Test.YtadglbmghldnfaaEOpn
import Derived.WalkKit
import Derived.ProofKit
import Derived.OpenShut
import Derived.ShutString
import Derived.ChangeOld
import Derived.Below
import Derived.SizedLaws
namespace Go.Proofs.Ytadglbmghldnfaa.msgEncodes
open Go.ChangeShapes Go.WideShapes Go.ChangeAt Go.RowKit Go.Proofs.Ytadglbmghldnfaa.M Go.Proofs.Ytadglbmghldnfaa.Opn Go.Proofs.YtadglbmghldnfaaW.PrintWords
open Go.ChangeMaps (open_string shut_string)
set_option linter.unusedVariables false
set_option linter.unusedSimpArgs false
theorem own : ownKnob Try.prog.godebug = none := by kernel_rfl
theorem laidOut : laidOutB Try.prog = true := by kernel_rfl
set_option maxRecDepth 100000 in
theorem lifted (os : Os) (started : os.Started) (H : Type) (enc : TypeId × Value → H) :
    ReturnsInHanded {} Try.checked os 3 .any (Rows.msgEncodesSpec.pre6 enc Try.prog Try.f3 Rows.msgEncodesRow.domain false) (Rows.msgEncodesSpec.post enc Try.prog Try.f3 false true false false) := by
  refine returnsInHanded_of_change_sized (C := Try.checked) own started (by kernel_rfl) Try.func3
    (ChangeSpec.witness6 (enc := enc) (C := Try.checked) false ⟨#[], #[.agg #[.int .i64 0, .int .u64 0, .int .u64 0, .int .i64 0, .int .i64 0, .int .u32 0, .int .u32 0, .int .u64 0, .int .u64 0, .int .u64 0, .int .u64 0, .int .u64 0, .int .u64 0, .int .u64 0, .string ByteArray.empty]], []⟩ 8 (by kernel_rfl) (by kernel_rfl) (by kernel_rfl) (by kernel_rfl)) ?_
  intro W base args ds gs before hval0 hW hcnd hsz0 _
  have hval : ∀ (j : Nat) t v, Try.f3.params[j]? = some t → args[j]? = some v → Value.okWide Try.prog W .any base t v := hval0
  have hW' := hW
  obtain ⟨p, q, hA0, hV, rfl, hfz, hnd⟩ := hW
  have hA : DataW.TrodAll enc Try.prog W 0 (fun _ => true) true Try.f3.params.toList args.toList ds p := hA0
  rw [Try.params3] at hA hval
  obtain ⟨v0, vs0, d0, ds0, p0, q0, hargs, rfl, rfl, h0, r0⟩ := trodAll_cons hA
  obtain ⟨rfl, rfl, rfl⟩ := trodAll_nil r0
  obtain rfl : args = #[v0] := by cases args; simp_all
  obtain ⟨rfl, rfl⟩ := trodVars_none hV
  have k0 := h0
  have lt0 : ∀ x ∈ p0, x.block < W.heap.size := by obtain ⟨m, hm⟩ := k0; exact DataW.trod_lt m _ _ _ hm
  obtain ⟨cs0, rfl, _⟩ := okWide_struct Try.underlying28 (hval 0 28 v0 rfl rfl)
  obtain ⟨cs0⟩ := cs0
  obtain ⟨fuel0, hf0⟩ := h0
  obtain ⟨⟨a0_0, a0_1, a0_2, a0_3, a0_4, ⟨a0_5, a0_6, a0_7, ⟨a0_8, a0_9, a0_10, a0_11, a0_12, a0_13⟩⟩, a0_14⟩, hK0, hV0⟩ := (opens_struct Try.underlying28 (by kernel_rfl) (opensL_cons (by kernel_rfl) (opens_i64 Try.underlying3) (opensL_cons (by kernel_rfl) (opens_u64 Try.underlying22) (opensL_cons (by kernel_rfl) (opens_u64 Try.underlying22) (opensL_cons (by kernel_rfl) (opens_i64 Try.underlying3) (opensL_cons (by kernel_rfl) (opens_i64 Try.underlying3) (opensL_cons (by kernel_rfl) (opens_struct Try.underlying26 (by kernel_rfl) (opensL_cons (by kernel_rfl) (opens_u32 Try.underlying23) (opensL_cons (by kernel_rfl) (opens_u32 Try.underlying23) (opensL_cons (by kernel_rfl) (opens_u64 Try.underlying22) (opensL_last (by kernel_rfl) (opens_array Try.underlying24 (by kernel_rfl) (opensL_cons (by kernel_rfl) (opens_u64 Try.underlying22) (opensL_cons (by kernel_rfl) (opens_u64 Try.underlying22) (opensL_cons (by kernel_rfl) (opens_u64 Try.underlying22) (opensL_cons (by kernel_rfl) (opens_u64 Try.underlying22) (opensL_cons (by kernel_rfl) (opens_u64 Try.underlying22) (opensL_last (by kernel_rfl) (opens_u64 Try.underlying22))))))))))))) (opensL_last (by kernel_rfl) (opens_string Try.underlying9))))))))) _ _ _ _ _ _ _ _ _ hf0
  obtain ⟨_, _, rfl, rfl, ⟨_, _, rfl, rfl, ⟨_, _, rfl, rfl, ⟨_, _, rfl, rfl, ⟨_, _, rfl, rfl, ⟨_, _, rfl, ⟨_, _, rfl, rfl, ⟨_, _, rfl, rfl, ⟨_, _, rfl, rfl, ⟨_, _, rfl, rfl, ⟨_, _, rfl, rfl, ⟨_, _, rfl, rfl, ⟨_, _, rfl, rfl, ⟨_, _, rfl, rfl, rfl⟩⟩⟩⟩⟩⟩⟩⟩, rfl⟩⟩⟩⟩⟩⟩ := (show Kd.K (Kd.pair (Kd.int .i64) (Kd.pair (Kd.int .u64) (Kd.pair (Kd.int .u64) (Kd.pair (Kd.int .i64) (Kd.pair (Kd.int .i64) (Kd.pair (Kd.pair (Kd.int .u32) (Kd.pair (Kd.int .u32) (Kd.pair (Kd.int .u64) (Kd.pair (Kd.int .u64) (Kd.pair (Kd.int .u64) (Kd.pair (Kd.int .u64) (Kd.pair (Kd.int .u64) (Kd.pair (Kd.int .u64) (Kd.int .u64))))))))) Kd.string)))))) W _ cs0 from hK0)
  obtain ⟨k, hP⟩ := Pure.MsgEncodes a0_0 a0_1 a0_2 a0_3 a0_4 a0_5 a0_6 a0_7 a0_8 a0_9 a0_10 a0_11 a0_12 a0_13 a0_14 hV0
  refine Calls.mono (show Calls Try.prog 3 #[.agg #[.int .i64 a0_0, .int .u64 a0_1, .int .u64 a0_2, .int .i64 a0_3, .int .i64 a0_4, .int .u32 a0_5, .int .u32 a0_6, .int .u64 a0_7, .int .u64 a0_8, .int .u64 a0_9, .int .u64 a0_10, .int .u64 a0_11, .int .u64 a0_12, .int .u64 a0_13, .string a0_14]] W _ from fairleadlaw17_MsgEncodes.calls k a0_0 a0_1 a0_2 a0_3 a0_4 a0_5 a0_6 a0_7 a0_8 a0_9 a0_10 a0_11 a0_12 a0_13 a0_14 true W hP) (fun e W' hp => ?_)
  obtain ⟨he, bel0⟩ := hp
  have bel := bel0
  subst he
  exact ⟨_, rfl, _, _, _, [], _, [], hW', trodAll_mk1 (shut_bool Try.underlying4 _), (trodAll_cons_mk (Below.trod laidOut (by kernel_rfl) (of_decide_eq_true (by kernel_rfl)) k0 bel lt0) trodAll_mk0), rfl, bel.frame _, fun h => by cases h⟩
theorem over : Rows.msgEncodesRow.holds Try.pinned (OpenSpec.ofChange Rows.msgEncodesSpec) :=
  OpenClaim.holds_of_wide 3 Try.f3 rfl rfl rfl rfl rfl rfl rfl ⟨rfl, rfl, rfl, rfl, rfl⟩ rfl rfl rfl rfl rfl (by kernel_rfl) Try.func3 (by kernel_rfl)
    (of_decide_eq_true (by kernel_rfl)) (by unfold Func.isWrapper; first | (rw [if_pos (by decide +kernel)]; kernel_rfl) | (rw [if_neg (by decide +kernel)]; exact ⟨rfl, rfl⟩))
    (fun os started H enc _ => lifted os started H enc)
theorem proved : Rows.MsgEncodesSaid := over
#print axioms proved
end Go.Proofs.Ytadglbmghldnfaa.msgEncodes
namespace Go.Proofs.Ytadglbmghldnfaa
/-- The row, under a short name, for the claim. -/
theorem msgEncodes_holds : Rows.MsgEncodesSaid := msgEncodes.proved
end Go.Proofs.Ytadglbmghldnfaa
