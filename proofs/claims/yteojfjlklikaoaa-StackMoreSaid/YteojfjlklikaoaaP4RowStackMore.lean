/- The statement StackMoreSaid: for every input the law answers true, and its arguments read afterwards as before. No condition beyond the row's own. -/
import Derived.Test.YteojfjlklikaoaaRows
import Derived.Test.YteojfjlklikaoaaP4Mx18
import Derived.Test.YteojfjlklikaoaaP4PureStackMore
import Derived.Test.YteojfjlklikaoaaP4Opn
import Derived.WalkKit
import Derived.ProofKit
import Derived.OpenShut
import Derived.ShutString
import Derived.ChangeOld
import Derived.Below
import Derived.SizedLaws
namespace Go.Proofs.Yteojfjlklikaoaa.stackMore
open Go.ChangeShapes Go.WideShapes Go.ChangeAt Go.RowKit Go.Proofs.Yteojfjlklikaoaa.M Go.Proofs.Yteojfjlklikaoaa.Opn Go.Proofs.YteojfjlklikaoaaW.PrintWords
open Go.ChangeMaps (open_string shut_string)
set_option linter.unusedVariables false
set_option linter.unusedSimpArgs false
theorem own : ownKnob Try.prog.godebug = none := by kernel_rfl
theorem laidOut : laidOutB Try.prog = true := by kernel_rfl
set_option maxRecDepth 100000 in
theorem lifted (os : Os) (started : os.Started) (H : Type) (enc : TypeId × Value → H) :
    ReturnsInHanded {} Try.checked os 5 .any (Rows.stackMoreSpec.pre6 enc Try.prog Try.f5 Rows.stackMoreRow.domain false) (Rows.stackMoreSpec.post enc Try.prog Try.f5 false true false false) := by
  refine returnsInHanded_of_change_sized (C := Try.checked) own started (by kernel_rfl) Try.func5
    (ChangeSpec.witness6 (enc := enc) (C := Try.checked) false ⟨#[], #[.slice none 0 0, .slice none 0 0, .agg #[.int .u32 0, .int .u32 0, .int .u64 0, .int .u64 0, .int .u64 0, .int .u64 0, .int .u64 0, .int .u64 0, .int .u64 0]], []⟩ 8 (by kernel_rfl) (by kernel_rfl) (by kernel_rfl) (by kernel_rfl)) ?_
  intro W base args ds gs before hval0 hW hcnd hsz0 _
  have hval : ∀ (j : Nat) t v, Try.f5.params[j]? = some t → args[j]? = some v → Value.okWide Try.prog W .any base t v := hval0
  have hW' := hW
  obtain ⟨p, q, hA0, hV, rfl, hfz, hnd⟩ := hW
  have hA : DataW.TrodAll enc Try.prog W 0 (fun _ => true) true Try.f5.params.toList args.toList ds p := hA0
  rw [Try.params5] at hA hval
  obtain ⟨v0, vs0, d0, ds0, p0, q0, hargs, rfl, rfl, h0, r0⟩ := trodAll_cons hA
  obtain ⟨v1, vs1, d1, ds1, p1, q1, rfl, rfl, rfl, h1, r1⟩ := trodAll_cons r0
  obtain ⟨v2, vs2, d2, ds2, p2, q2, rfl, rfl, rfl, h2, r2⟩ := trodAll_cons r1
  obtain ⟨rfl, rfl, rfl⟩ := trodAll_nil r2
  obtain rfl : args = #[v0, v1, v2] := by cases args; simp_all
  obtain ⟨rfl, rfl⟩ := trodVars_none hV
  have k0 := h0
  have lt0 : ∀ x ∈ p0, x.block < W.heap.size := by obtain ⟨m, hm⟩ := k0; exact DataW.trod_lt m _ _ _ hm
  obtain ⟨A0, n0, c0, rfl⟩ := okWide_slice Try.underlying22 (hval 0 22 v0 rfl rfl)
  obtain ⟨fuel0, hf0⟩ := h0
  obtain ⟨l0, ⟨A0', c0', e0, hc0, hr0⟩, hV0⟩ := (opens_slice 38 Try.underlying22 (by kernel_rfl) (opens_slice 53 Try.underlying38 (by kernel_rfl) (opens_iso (fun x : S53 => (x.f0, x.f1, x.f2, x.f3)) (fun a => ⟨a.1, a.2.1, a.2.2.1, a.2.2.2⟩) (fun _ => rfl) (opens_struct Try.underlying53 (by kernel_rfl) (opensL_cons (by kernel_rfl) (opens_u16 Try.underlying51) (opensL_cons (by kernel_rfl) (opens_u8 Try.underlying5) (opensL_cons (by kernel_rfl) (opens_u8 Try.underlying5) (opensL_last (by kernel_rfl) (opens_u32 Try.underlying23))))))))) _ _ _ _ _ _ _ _ _ hf0
  simp [Value.cells] at e0
  obtain ⟨rfl, rfl, rfl⟩ := e0
  have k1 := h1
  have lt1 : ∀ x ∈ p1, x.block < W.heap.size := by obtain ⟨m, hm⟩ := k1; exact DataW.trod_lt m _ _ _ hm
  obtain ⟨A1, n1, c1, rfl⟩ := okWide_slice Try.underlying38 (hval 1 38 v1 rfl rfl)
  obtain ⟨fuel1, hf1⟩ := h1
  obtain ⟨l1, ⟨A1', c1', e1, hc1, hr1⟩, hV1⟩ := (opens_slice 53 Try.underlying38 (by kernel_rfl) (opens_iso (fun x : S53 => (x.f0, x.f1, x.f2, x.f3)) (fun a => ⟨a.1, a.2.1, a.2.2.1, a.2.2.2⟩) (fun _ => rfl) (opens_struct Try.underlying53 (by kernel_rfl) (opensL_cons (by kernel_rfl) (opens_u16 Try.underlying51) (opensL_cons (by kernel_rfl) (opens_u8 Try.underlying5) (opensL_cons (by kernel_rfl) (opens_u8 Try.underlying5) (opensL_last (by kernel_rfl) (opens_u32 Try.underlying23)))))))) _ _ _ _ _ _ _ _ _ hf1
  simp [Value.cells] at e1
  obtain ⟨rfl, rfl, rfl⟩ := e1
  have k2 := h2
  have lt2 : ∀ x ∈ p2, x.block < W.heap.size := by obtain ⟨m, hm⟩ := k2; exact DataW.trod_lt m _ _ _ hm
  obtain ⟨cs2, rfl, _⟩ := okWide_struct Try.underlying27 (hval 2 27 v2 rfl rfl)
  obtain ⟨cs2⟩ := cs2
  obtain ⟨fuel2, hf2⟩ := h2
  obtain ⟨⟨a2_0, a2_1, a2_2, ⟨a2_3, a2_4, a2_5, a2_6, a2_7, a2_8⟩⟩, hK2, hV2⟩ := (opens_struct Try.underlying27 (by kernel_rfl) (opensL_cons (by kernel_rfl) (opens_u32 Try.underlying23) (opensL_cons (by kernel_rfl) (opens_u32 Try.underlying23) (opensL_cons (by kernel_rfl) (opens_u64 Try.underlying24) (opensL_last (by kernel_rfl) (opens_array Try.underlying25 (by kernel_rfl) (opensL_cons (by kernel_rfl) (opens_u64 Try.underlying24) (opensL_cons (by kernel_rfl) (opens_u64 Try.underlying24) (opensL_cons (by kernel_rfl) (opens_u64 Try.underlying24) (opensL_cons (by kernel_rfl) (opens_u64 Try.underlying24) (opensL_cons (by kernel_rfl) (opens_u64 Try.underlying24) (opensL_last (by kernel_rfl) (opens_u64 Try.underlying24))))))))))))) _ _ _ _ _ _ _ _ _ hf2
  obtain ⟨_, _, rfl, rfl, ⟨_, _, rfl, rfl, ⟨_, _, rfl, rfl, ⟨_, _, rfl, rfl, ⟨_, _, rfl, rfl, ⟨_, _, rfl, rfl, ⟨_, _, rfl, rfl, ⟨_, _, rfl, rfl, rfl⟩⟩⟩⟩⟩⟩⟩⟩ := (show Kd.K (Kd.pair (Kd.int .u32) (Kd.pair (Kd.int .u32) (Kd.pair (Kd.int .u64) (Kd.pair (Kd.int .u64) (Kd.pair (Kd.int .u64) (Kd.pair (Kd.int .u64) (Kd.pair (Kd.int .u64) (Kd.pair (Kd.int .u64) (Kd.int .u64))))))))) W _ cs2 from hK2)
  obtain ⟨k, hP⟩ := Pure.StackMore l0 l1 a2_0 a2_1 a2_2 a2_3 a2_4 a2_5 a2_6 a2_7 a2_8 hV0 hV1 hV2
  refine Calls.mono (show Calls Try.prog 5 #[.slice A0 l0.length c0, .slice A1 l1.length c1, .agg #[.int .u32 a2_0, .int .u32 a2_1, .int .u64 a2_2, .int .u64 a2_3, .int .u64 a2_4, .int .u64 a2_5, .int .u64 a2_6, .int .u64 a2_7, .int .u64 a2_8]] W _ from fairleadlaw15_StackMore.calls k _ _ l0 _ _ l1 a2_0 a2_1 a2_2 a2_3 a2_4 a2_5 a2_6 a2_7 a2_8 true W hr0 hc0 hr1 hc1 hP) (fun e W' hp => ?_)
  obtain ⟨he, bel0⟩ := hp
  have bel := bel0
  subst he
  exact ⟨_, rfl, _, _, _, [], _, [], hW', trodAll_mk1 (shut_bool Try.underlying4 _), (trodAll_cons_mk (Below.trod laidOut (by kernel_rfl) (of_decide_eq_true (by kernel_rfl)) k0 bel lt0) (trodAll_cons_mk (Below.trod laidOut (by kernel_rfl) (of_decide_eq_true (by kernel_rfl)) k1 bel lt1) (trodAll_cons_mk (Below.trod laidOut (by kernel_rfl) (of_decide_eq_true (by kernel_rfl)) k2 bel lt2) trodAll_mk0))), rfl, bel.frame _, fun h => by cases h⟩
theorem over : Rows.stackMoreRow.holds Try.pinned (OpenSpec.ofChange Rows.stackMoreSpec) :=
  OpenClaim.holds_of_wide 5 Try.f5 rfl rfl rfl rfl rfl rfl rfl ⟨rfl, rfl, rfl, rfl, rfl⟩ rfl rfl rfl rfl rfl (by kernel_rfl) Try.func5 (by kernel_rfl)
    (of_decide_eq_true (by kernel_rfl)) (by unfold Func.isWrapper; first | (rw [if_pos (by decide +kernel)]; kernel_rfl) | (rw [if_neg (by decide +kernel)]; exact ⟨rfl, rfl⟩))
    (fun os started H enc _ => lifted os started H enc)
theorem proved : Rows.StackMoreSaid := over
#print axioms proved
end Go.Proofs.Yteojfjlklikaoaa.stackMore
namespace Go.Proofs.Yteojfjlklikaoaa
/-- The row, under a short name, for the claim. -/
theorem stackMore_holds : Rows.StackMoreSaid := stackMore.proved
end Go.Proofs.Yteojfjlklikaoaa
