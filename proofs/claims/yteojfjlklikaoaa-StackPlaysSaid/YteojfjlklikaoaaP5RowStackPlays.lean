/- The statement StackPlaysSaid: for every input the law answers true, and its arguments read afterwards as before. No condition beyond the row's own. -/
import Derived.Test.YteojfjlklikaoaaRows
import Derived.Test.YteojfjlklikaoaaP5Mx15
import Derived.Test.YteojfjlklikaoaaP5PureStackPlays
import Derived.Test.YteojfjlklikaoaaP5Opn
import Derived.WalkKit
import Derived.ProofKit
import Derived.OpenShut
import Derived.ShutString
import Derived.ChangeOld
import Derived.Below
import Derived.SizedLaws
namespace Go.Proofs.Yteojfjlklikaoaa.stackPlays
open Go.ChangeShapes Go.WideShapes Go.ChangeAt Go.RowKit Go.Proofs.Yteojfjlklikaoaa.M Go.Proofs.Yteojfjlklikaoaa.Opn Go.Proofs.YteojfjlklikaoaaW.PrintWords
open Go.ChangeMaps (open_string shut_string)
set_option linter.unusedVariables false
set_option linter.unusedSimpArgs false
theorem own : ownKnob Try.prog.godebug = none := by kernel_rfl
theorem laidOut : laidOutB Try.prog = true := by kernel_rfl
set_option maxRecDepth 100000 in
theorem lifted (os : Os) (started : os.Started) (H : Type) (enc : TypeId × Value → H) :
    ReturnsInHanded {} Try.checked os 3 .any (Rows.stackPlaysSpec.pre6 enc Try.prog Try.f3 Rows.stackPlaysRow.domain false) (Rows.stackPlaysSpec.post enc Try.prog Try.f3 false true false false) := by
  refine returnsInHanded_of_change_sized (C := Try.checked) own started (by kernel_rfl) Try.func3
    (ChangeSpec.witness6 (enc := enc) (C := Try.checked) false ⟨#[], #[.slice none 0 0, .agg #[.int .u32 0, .int .u32 0, .int .u64 0, .int .u64 0, .int .u64 0, .int .u64 0, .int .u64 0, .int .u64 0, .int .u64 0]], []⟩ 8 (by kernel_rfl) (by kernel_rfl) (by kernel_rfl) (by kernel_rfl)) ?_
  intro W base args ds gs before hval0 hW hcnd hsz0 _
  have hval : ∀ (j : Nat) t v, Try.f3.params[j]? = some t → args[j]? = some v → Value.okWide Try.prog W .any base t v := hval0
  have hW' := hW
  obtain ⟨p, q, hA0, hV, rfl, hfz, hnd⟩ := hW
  have hA : DataW.TrodAll enc Try.prog W 0 (fun _ => true) true Try.f3.params.toList args.toList ds p := hA0
  rw [Try.params3] at hA hval
  obtain ⟨v0, vs0, d0, ds0, p0, q0, hargs, rfl, rfl, h0, r0⟩ := trodAll_cons hA
  obtain ⟨v1, vs1, d1, ds1, p1, q1, rfl, rfl, rfl, h1, r1⟩ := trodAll_cons r0
  obtain ⟨rfl, rfl, rfl⟩ := trodAll_nil r1
  obtain rfl : args = #[v0, v1] := by cases args; simp_all
  obtain ⟨rfl, rfl⟩ := trodVars_none hV
  have k0 := h0
  have lt0 : ∀ x ∈ p0, x.block < W.heap.size := by obtain ⟨m, hm⟩ := k0; exact DataW.trod_lt m _ _ _ hm
  obtain ⟨A0, n0, c0, rfl⟩ := okWide_slice Try.underlying22 (hval 0 22 v0 rfl rfl)
  obtain ⟨fuel0, hf0⟩ := h0
  obtain ⟨l0, ⟨A0', c0', e0, hc0, hr0⟩, hV0⟩ := (opens_slice 38 Try.underlying22 (by kernel_rfl) (opens_slice 53 Try.underlying38 (by kernel_rfl) (opens_iso (fun x : S53 => (x.f0, x.f1, x.f2, x.f3)) (fun a => ⟨a.1, a.2.1, a.2.2.1, a.2.2.2⟩) (fun _ => rfl) (opens_struct Try.underlying53 (by kernel_rfl) (opensL_cons (by kernel_rfl) (opens_u16 Try.underlying51) (opensL_cons (by kernel_rfl) (opens_u8 Try.underlying5) (opensL_cons (by kernel_rfl) (opens_u8 Try.underlying5) (opensL_last (by kernel_rfl) (opens_u32 Try.underlying23))))))))) _ _ _ _ _ _ _ _ _ hf0
  simp [Value.cells] at e0
  obtain ⟨rfl, rfl, rfl⟩ := e0
  have k1 := h1
  have lt1 : ∀ x ∈ p1, x.block < W.heap.size := by obtain ⟨m, hm⟩ := k1; exact DataW.trod_lt m _ _ _ hm
  obtain ⟨cs1, rfl, _⟩ := okWide_struct Try.underlying27 (hval 1 27 v1 rfl rfl)
  obtain ⟨cs1⟩ := cs1
  obtain ⟨fuel1, hf1⟩ := h1
  obtain ⟨⟨a1_0, a1_1, a1_2, ⟨a1_3, a1_4, a1_5, a1_6, a1_7, a1_8⟩⟩, hK1, hV1⟩ := (opens_struct Try.underlying27 (by kernel_rfl) (opensL_cons (by kernel_rfl) (opens_u32 Try.underlying23) (opensL_cons (by kernel_rfl) (opens_u32 Try.underlying23) (opensL_cons (by kernel_rfl) (opens_u64 Try.underlying24) (opensL_last (by kernel_rfl) (opens_array Try.underlying25 (by kernel_rfl) (opensL_cons (by kernel_rfl) (opens_u64 Try.underlying24) (opensL_cons (by kernel_rfl) (opens_u64 Try.underlying24) (opensL_cons (by kernel_rfl) (opens_u64 Try.underlying24) (opensL_cons (by kernel_rfl) (opens_u64 Try.underlying24) (opensL_cons (by kernel_rfl) (opens_u64 Try.underlying24) (opensL_last (by kernel_rfl) (opens_u64 Try.underlying24))))))))))))) _ _ _ _ _ _ _ _ _ hf1
  obtain ⟨_, _, rfl, rfl, ⟨_, _, rfl, rfl, ⟨_, _, rfl, rfl, ⟨_, _, rfl, rfl, ⟨_, _, rfl, rfl, ⟨_, _, rfl, rfl, ⟨_, _, rfl, rfl, ⟨_, _, rfl, rfl, rfl⟩⟩⟩⟩⟩⟩⟩⟩ := (show Kd.K (Kd.pair (Kd.int .u32) (Kd.pair (Kd.int .u32) (Kd.pair (Kd.int .u64) (Kd.pair (Kd.int .u64) (Kd.pair (Kd.int .u64) (Kd.pair (Kd.int .u64) (Kd.pair (Kd.int .u64) (Kd.pair (Kd.int .u64) (Kd.int .u64))))))))) W _ cs1 from hK1)
  obtain ⟨k, hP⟩ := Pure.StackPlays l0 a1_0 a1_1 a1_2 a1_3 a1_4 a1_5 a1_6 a1_7 a1_8 hV0 hV1
  refine Calls.mono (show Calls Try.prog 3 #[.slice A0 l0.length c0, .agg #[.int .u32 a1_0, .int .u32 a1_1, .int .u64 a1_2, .int .u64 a1_3, .int .u64 a1_4, .int .u64 a1_5, .int .u64 a1_6, .int .u64 a1_7, .int .u64 a1_8]] W _ from fairleadlaw15_StackPlays.calls k _ _ l0 a1_0 a1_1 a1_2 a1_3 a1_4 a1_5 a1_6 a1_7 a1_8 true W hr0 hc0 hP) (fun e W' hp => ?_)
  obtain ⟨he, bel0⟩ := hp
  have bel := bel0
  subst he
  exact ⟨_, rfl, _, _, _, [], _, [], hW', trodAll_mk1 (shut_bool Try.underlying4 _), (trodAll_cons_mk (Below.trod laidOut (by kernel_rfl) (of_decide_eq_true (by kernel_rfl)) k0 bel lt0) (trodAll_cons_mk (Below.trod laidOut (by kernel_rfl) (of_decide_eq_true (by kernel_rfl)) k1 bel lt1) trodAll_mk0)), rfl, bel.frame _, fun h => by cases h⟩
theorem over : Rows.stackPlaysRow.holds Try.pinned (OpenSpec.ofChange Rows.stackPlaysSpec) :=
  OpenClaim.holds_of_wide 3 Try.f3 rfl rfl rfl rfl rfl rfl rfl ⟨rfl, rfl, rfl, rfl, rfl⟩ rfl rfl rfl rfl rfl (by kernel_rfl) Try.func3 (by kernel_rfl)
    (of_decide_eq_true (by kernel_rfl)) (by unfold Func.isWrapper; first | (rw [if_pos (by decide +kernel)]; kernel_rfl) | (rw [if_neg (by decide +kernel)]; exact ⟨rfl, rfl⟩))
    (fun os started H enc _ => lifted os started H enc)
theorem proved : Rows.StackPlaysSaid := over
#print axioms proved
end Go.Proofs.Yteojfjlklikaoaa.stackPlays
namespace Go.Proofs.Yteojfjlklikaoaa
/-- The row, under a short name, for the claim. -/
theorem stackPlays_holds : Rows.StackPlaysSaid := stackPlays.proved
end Go.Proofs.Yteojfjlklikaoaa
