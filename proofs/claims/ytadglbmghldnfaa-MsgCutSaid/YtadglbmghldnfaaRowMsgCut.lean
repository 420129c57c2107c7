/- The statement MsgCutSaid: for every input the law answers true, and its arguments read afterwards as before. No condition beyond the row's own. -/
import Derived.Test.YtadglbmghldnfaaRows
import Derived.Test.YtadglbmghldnfaaMx27
import Derived.Test.YtadglbmghldnfaaPureMsgCut
import Derived.Test.YtadglbmghldnfaaOpn
import Derived.WalkKit
import Derived.ProofKit
import Derived.OpenShut
import Derived.ShutString
import Derived.ChangeOld
import Derived.Below
import Derived.SizedLaws
namespace Go.Proofs.Ytadglbmghldnfaa.msgCut
open Go.ChangeShapes Go.WideShapes Go.ChangeAt Go.RowKit Go.Proofs.Ytadglbmghldnfaa.M Go.Proofs.Ytadglbmghldnfaa.Opn Go.Proofs.YtadglbmghldnfaaW.PrintWords
open Go.ChangeMaps (open_string shut_string)
set_option linter.unusedVariables false
set_option linter.unusedSimpArgs false
theorem own : ownKnob Try.prog.godebug = none := by kernel_rfl
theorem laidOut : laidOutB Try.prog = true := by kernel_rfl
set_option maxRecDepth 100000 in
theorem lifted (os : Os) (started : os.Started) (H : Type) (enc : TypeId × Value → H) :
    ReturnsInHanded {} Try.checked os 6 .any (Rows.msgCutSpec.pre6 enc Try.prog Try.f6 Rows.msgCutRow.domain false) (Rows.msgCutSpec.post enc Try.prog Try.f6 false true false false) := by
  refine returnsInHanded_of_change_sized (C := Try.checked) own started (by kernel_rfl) Try.func6
    (ChangeSpec.witness6 (enc := enc) (C := Try.checked) false ⟨#[], #[.agg #[.int .i64 0, .int .u64 0, .int .u64 0, .int .i64 0, .int .i64 0, .int .u32 0, .int .u32 0, .int .u64 0, .int .u64 0, .int .u64 0, .int .u64 0, .int .u64 0, .int .u64 0, .int .u64 0, .string ByteArray.empty], .int .i64 0, .slice none 0 0], []⟩ 8 (by kernel_rfl) (by kernel_rfl) (by kernel_rfl) (by kernel_rfl)) ?_
  intro W base args ds gs before hval0 hW hcnd hsz0 _
  have hval : ∀ (j : Nat) t v, Try.f6.params[j]? = some t → args[j]? = some v → Value.okWide Try.prog W .any base t v := hval0
  have hW' := hW
  obtain ⟨p, q, hA0, hV, rfl, hfz, hnd⟩ := hW
  have hA : DataW.TrodAll enc Try.prog W 0 (fun _ => true) true Try.f6.params.toList args.toList ds p := hA0
  rw [Try.params6] at hA hval
  obtain ⟨v0, vs0, d0, ds0, p0, q0, hargs, rfl, rfl, h0, r0⟩ := trodAll_cons hA
  obtain ⟨v1, vs1, d1, ds1, p1, q1, rfl, rfl, rfl, h1, r1⟩ := trodAll_cons r0
  obtain ⟨v2, vs2, d2, ds2, p2, q2, rfl, rfl, rfl, h2, r2⟩ := trodAll_cons r1
  obtain ⟨rfl, rfl, rfl⟩ := trodAll_nil r2
  obtain rfl : args = #[v0, v1, v2] := by cases args; simp_all
  obtain ⟨rfl, rfl⟩ := trodVars_none hV
  have k0 := h0
  have lt0 : ∀ x ∈ p0, x.block < W.heap.size := by obtain ⟨m, hm⟩ := k0; exact DataW.trod_lt m _ _ _ hm
  obtain ⟨cs0, rfl, _⟩ := okWide_struct Try.underlying28 (hval 0 28 v0 rfl rfl)
  obtain ⟨cs0⟩ := cs0
  obtain ⟨fuel0, hf0⟩ := h0
  obtain ⟨⟨a0_0, a0_1, a0_2, a0_3, a0_4, ⟨a0_5, a0_6, a0_7, ⟨a0_8, a0_9, a0_10, a0_11, a0_12, a0_13⟩⟩, a0_14⟩, hK0, hV0⟩ := (opens_struct Try.underlying28 (by kernel_rfl) (opensL_cons (by kernel_rfl) (opens_i64 Try.underlying3) (opensL_cons (by kernel_rfl) (opens_u64 Try.underlying22) (opensL_cons (by kernel_rfl) (opens_u64 Try.underlying22) (opensL_cons (by kernel_rfl) (opens_i64 Try.underlying3) (opensL_cons (by kernel_rfl) (opens_i64 Try.underlying3) (opensL_cons (by kernel_rfl) (opens_struct Try.underlying26 (by kernel_rfl) (opensL_cons (by kernel_rfl) (opens_u32 Try.underlying23) (opensL_cons (by kernel_rfl) (opens_u32 Try.underlying23) (opensL_cons (by kernel_rfl) (opens_u64 Try.underlying22) (opensL_last (by kernel_rfl) (opens_array Try.underlying24 (by kernel_rfl) (opensL_cons (by kernel_rfl) (opens_u64 Try.underlying22) (opensL_cons (by kernel_rfl) (opens_u64 Try.underlying22) (opensL_cons (by kernel_rfl) (opens_u64 Try.underlying22) (opensL_cons (by kernel_rfl) (opens_u64 Try.underlying22) (opensL_cons (by kernel_rfl) (opens_u64 Try.underlying22) (opensL_last (by kernel_rfl) (opens_u64 Try.underlying22))))))))))))) (opensL_last (by kernel_rfl) (opens_string Try.underlying9))))))))) _ _ _ _ _ _ _ _ _ hf0
  obtain ⟨_, _, rfl, rfl, ⟨_, _, rfl, rfl, ⟨_, _, rfl, rfl, ⟨_, _, rfl, rfl, ⟨_, _, rfl, rfl, ⟨_, _, rfl, ⟨_, _, rfl, rfl, ⟨_, _, rfl, rfl, ⟨_, _, rfl, rfl, ⟨_, _, rfl, rfl, ⟨_, _, rfl, rfl, ⟨_, _, rfl, rfl, ⟨_, _, rfl, rfl, ⟨_, _, rfl, rfl, rfl⟩⟩⟩⟩⟩⟩⟩⟩, rfl⟩⟩⟩⟩⟩⟩ := (show Kd.K (Kd.pair (Kd.int .i64) (Kd.pair (Kd.int .u64) (Kd.pair (Kd.int .u64) (Kd.pair (Kd.int .i64) (Kd.pair (Kd.int .i64) (Kd.pair (Kd.pair (Kd.int .u32) (Kd.pair (Kd.int .u32) (Kd.pair (Kd.int .u64) (Kd.pair (Kd.int .u64) (Kd.pair (Kd.int .u64) (Kd.pair (Kd.int .u64) (Kd.pair (Kd.int .u64) (Kd.pair (Kd.int .u64) (Kd.int .u64))))))))) Kd.string)))))) W _ cs0 from hK0)
  have k1 := h1
  have lt1 : ∀ x ∈ p1, x.block < W.heap.size := by obtain ⟨m, hm⟩ := k1; exact DataW.trod_lt m _ _ _ hm
  obtain ⟨a1, rfl, rfl, rfl, hw1⟩ := open_int Try.underlying3 (hval 1 3 v1 rfl rfl) h1
  have hV1 := wfb_i64 hw1
  have k2 := h2
  have lt2 : ∀ x ∈ p2, x.block < W.heap.size := by obtain ⟨m, hm⟩ := k2; exact DataW.trod_lt m _ _ _ hm
  obtain ⟨A2, n2, c2, rfl⟩ := okWide_slice Try.underlying30 (hval 2 30 v2 rfl rfl)
  obtain ⟨fuel2, hf2⟩ := h2
  obtain ⟨l2, ⟨A2', c2', e2, hc2, hr2⟩, hV2⟩ := (opens_slice 5 Try.underlying30 (by kernel_rfl) (opens_u8 Try.underlying5)) _ _ _ _ _ _ _ _ _ hf2
  simp [Value.cells] at e2
  obtain ⟨rfl, rfl, rfl⟩ := e2
  obtain ⟨k, hP⟩ := Pure.MsgCut a0_0 a0_1 a0_2 a0_3 a0_4 a0_5 a0_6 a0_7 a0_8 a0_9 a0_10 a0_11 a0_12 a0_13 a0_14 a1 l2 hV0 hV1 hV2
  refine Calls.mono (show Calls Try.prog 6 #[.agg #[.int .i64 a0_0, .int .u64 a0_1, .int .u64 a0_2, .int .i64 a0_3, .int .i64 a0_4, .int .u32 a0_5, .int .u32 a0_6, .int .u64 a0_7, .int .u64 a0_8, .int .u64 a0_9, .int .u64 a0_10, .int .u64 a0_11, .int .u64 a0_12, .int .u64 a0_13, .string a0_14], .int .i64 a1, .slice A2 l2.length c2] W _ from fairleadlaw17_MsgCut.calls k a0_0 a0_1 a0_2 a0_3 a0_4 a0_5 a0_6 a0_7 a0_8 a0_9 a0_10 a0_11 a0_12 a0_13 a0_14 a1 _ _ l2 true W hr2 hc2 hP) (fun e W' hp => ?_)
  obtain ⟨he, bel0⟩ := hp
  have bel := bel0
  subst he
  exact ⟨_, rfl, _, _, _, [], _, [], hW', trodAll_mk1 (shut_bool Try.underlying4 _), (trodAll_cons_mk (Below.trod laidOut (by kernel_rfl) (of_decide_eq_true (by kernel_rfl)) k0 bel lt0) (trodAll_cons_mk (Below.trod laidOut (by kernel_rfl) (of_decide_eq_true (by kernel_rfl)) k1 bel lt1) (trodAll_cons_mk (Below.trod laidOut (by kernel_rfl) (of_decide_eq_true (by kernel_rfl)) k2 bel lt2) trodAll_mk0))), rfl, bel.frame _, fun h => by cases h⟩
theorem over : Rows.msgCutRow.holds Try.pinned (OpenSpec.ofChange Rows.msgCutSpec) :=
  OpenClaim.holds_of_wide 6 Try.f6 rfl rfl rfl rfl rfl rfl rfl ⟨rfl, rfl, rfl, rfl, rfl⟩ rfl rfl rfl rfl rfl (by kernel_rfl) Try.func6 (by kernel_rfl)
    (of_decide_eq_true (by kernel_rfl)) (by unfold Func.isWrapper; first | (rw [if_pos (by decide +kernel)]; kernel_rfl) | (rw [if_neg (by decide +kernel)]; exact ⟨rfl, rfl⟩))
    (fun os started H enc _ => lifted os started H enc)
theorem proved : Rows.MsgCutSaid := over
#print axioms proved
end Go.Proofs.Ytadglbmghldnfaa.msgCut
namespace Go.Proofs.Ytadglbmghldnfaa
/-- The row, under a short name, for the claim. -/
theorem msgCut_holds : Rows.MsgCutSaid := msgCut.proved
end Go.Proofs.Ytadglbmghldnfaa
