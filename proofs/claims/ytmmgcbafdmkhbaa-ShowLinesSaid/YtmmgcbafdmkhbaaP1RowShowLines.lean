/- The statement ShowLinesSaid: for every input the law answers true, and its arguments read afterwards as before. No condition beyond the row's own. -/
import Derived.Test.YtmmgcbafdmkhbaaRows
import Derived.Test.YtmmgcbafdmkhbaaP1Pm
import Derived.Test.YtmmgcbafdmkhbaaP1Opn
import Derived.WalkKit
import Derived.ProofKit
import Derived.OpenShut
import Derived.ShutString
import Derived.ChangeOld
import Derived.Below
import Derived.SizedLaws
import Derived.HandedShaped
namespace Go.Proofs.Ytmmgcbafdmkhbaa.showLines
open Go.ChangeShapes Go.WideShapes Go.ChangeAt Go.RowKit Go.Proofs.Ytmmgcbafdmkhbaa.M Go.Proofs.Ytmmgcbafdmkhbaa.Opn Go.Proofs.YtmmgcbafdmkhbaaW.PrintWords
open Go.ChangeMaps (open_string shut_string)
set_option linter.unusedVariables false
set_option linter.unusedSimpArgs false
theorem own : ownKnob Try.prog.godebug = none := by kernel_rfl
theorem laidOut : laidOutB Try.prog = true := by kernel_rfl
set_option maxRecDepth 100000 in
theorem tb_shaped (w : World) (h : w.ShapedOpen Try.prog) : ∃ T, TB w T := by
  have h0 : ((begin Try.prog (fun _ _ => 0) default).world.heap[0]?).bind Obj.row? = some (Array.replicate 20 (.int .u64 0), 109) := by kernel_rfl
  obtain ⟨cs, hh, hs, hr⟩ := h.1 0 _ 109 (of_decide_eq_true (by kernel_rfl)) h0
  obtain ⟨ts, hts, _, hall⟩ := hr (by kernel_rfl)
  have hc : Try.prog.cellTypes Try.prog.depth 109 = some (List.replicate 20 37) := by kernel_rfl
  rw [hc] at hts
  obtain rfl := Option.some.inj hts
  have hs20 : cs.size = 20 := by rw [hs]; rfl
  clear h0 hs hr hc h
  refine ⟨fun i => match cs[i]? with | some (.int _ m) => m | _ => 0, fun i hi => ?_⟩
  have h1 : i < cs.size := by omega
  obtain ⟨u, hu', hok⟩ := hall i cs[i] (by simp [h1])
  have : u = 37 := by
    rw [List.length_replicate, Nat.mod_eq_of_lt hi, List.getElem?_replicate, if_pos hi] at hu'
    exact (Option.some.inj hu').symm
  subst this
  have hcell : w.cell? ⟨0, i, none⟩ = some cs[i] := by simp [World.cell?, hh, h1]
  rw [hcell]
  have hi' : cs[i]? = some cs[i] := by simp [h1]
  dsimp only
  rw [hi']
  unfold Cell.ok at hok
  rw [Try.underlying37] at hok
  cases hv : cs[i] <;> rw [hv] at hok <;> simp at hok
  case int k' n => rw [hok.1]
set_option maxRecDepth 100000 in
theorem lifted (os : Os) (started : os.Started) (H : Type) (enc : TypeId × Value → H) :
    ReturnsInHanded {} Try.checked os 5 .any (Rows.showLinesSpec.pre6 enc Try.prog Try.f5 Rows.showLinesRow.domain false) (Rows.showLinesSpec.post enc Try.prog Try.f5 false true false false) := by
  refine returnsInHanded_of_change_shaped (C := Try.checked) own started (by kernel_rfl) Try.func5
    (ChangeSpec.witness6 (enc := enc) (C := Try.checked) false ⟨#[], #[.agg #[.int .i64 0, .int .i64 0, .slice none 0 0]], []⟩ 8 (by kernel_rfl) (by kernel_rfl) (by kernel_rfl) (by kernel_rfl)) ?_
  intro W base args ds gs before hval0 hW hcnd hsz0 hsh _
  obtain ⟨T, hT⟩ := tb_shaped W hsh
  have hval : ∀ (j : Nat) t v, Try.f5.params[j]? = some t → args[j]? = some v → Value.okWide Try.prog W .any base t v := hval0
  have hW' := hW
  obtain ⟨p, q, hA0, hV, rfl, hfz, hnd⟩ := hW
  have hA : DataW.TrodAll enc Try.prog W 0 (fun _ => true) true Try.f5.params.toList args.toList ds p := hA0
  rw [Try.params5] at hA hval
  obtain ⟨v0, vs0, d0, ds0, p0, q0, hargs, rfl, rfl, h0, r0⟩ := trodAll_cons hA
  obtain ⟨rfl, rfl, rfl⟩ := trodAll_nil r0
  obtain rfl : args = #[v0] := by cases args; simp_all
  obtain ⟨rfl, rfl⟩ := trodVars_none hV
  have k0 := h0
  have lt0 : ∀ x ∈ p0, x.block < W.heap.size := by obtain ⟨m, hm⟩ := k0; exact DataW.trod_lt m _ _ _ hm
  obtain ⟨cs0, rfl, _⟩ := okWide_struct Try.underlying26 (hval 0 26 v0 rfl rfl)
  obtain ⟨cs0⟩ := cs0
  obtain ⟨fuel0, hf0⟩ := h0
  obtain ⟨⟨⟨a0_0, a0_1⟩, l0_2⟩, hK0, hV0⟩ := (opens_struct Try.underlying26 (by kernel_rfl) (opensL_cons (by kernel_rfl) (opens_struct Try.underlying23 (by kernel_rfl) (opensL_cons (by kernel_rfl) (opens_i64 Try.underlying3) (opensL_last (by kernel_rfl) (opens_i64 Try.underlying3)))) (opensL_last (by kernel_rfl) (opens_slice 42 Try.underlying24 (by kernel_rfl) (opens_iso (fun x : S42 => (x.f0, x.f1, x.f2)) (fun a => ⟨a.1, a.2.1, a.2.2⟩) (fun _ => rfl) (opens_struct Try.underlying42 (by kernel_rfl) (opensL_cons (by kernel_rfl) (opens_iso (fun x : S23 => (x.f0, x.f1)) (fun a => ⟨a.1, a.2⟩) (fun _ => rfl) (opens_struct Try.underlying23 (by kernel_rfl) (opensL_cons (by kernel_rfl) (opens_i64 Try.underlying3) (opensL_last (by kernel_rfl) (opens_i64 Try.underlying3))))) (opensL_cons (by kernel_rfl) (opens_slice 9 Try.underlying36 (by kernel_rfl) (opens_string Try.underlying9)) (opensL_last (by kernel_rfl) (opens_slice 39 Try.underlying40 (by kernel_rfl) (opens_iso (fun x : S39 => (x.f0, x.f1, x.f2, x.f3)) (fun a => ⟨a.1, a.2.1, a.2.2.1, a.2.2.2⟩) (fun _ => rfl) (opens_struct Try.underlying39 (by kernel_rfl) (opensL_cons (by kernel_rfl) (opens_i64 Try.underlying3) (opensL_cons (by kernel_rfl) (opens_i64 Try.underlying3) (opensL_cons (by kernel_rfl) (opens_u64 Try.underlying37) (opensL_last (by kernel_rfl) (opens_u64 Try.underlying37))))))))))))))))) _ _ _ _ _ _ _ _ _ hf0
  obtain ⟨_, _, rfl, ⟨_, _, rfl, rfl, rfl⟩, ⟨A0_2, c0_2, rfl, hc0_2, hr0_2⟩⟩ := (show Kd.K (Kd.pair (Kd.pair (Kd.int .i64) (Kd.int .i64)) (Kd.slice 42 k42)) W _ cs0 from hK0)
  have hbd : ∀ x ∈ l0_2, ∀ c ∈ x.f2, CondIn c := fun x hx c hc => by
    have h := (hV0.2.2 x hx).2.2.2 c hc
    exact ⟨h.2.2.1, h.2.2.2⟩
  obtain ⟨k, hP⟩ := ShowLines_pure a0_0 a0_1 l0_2 hbd
  · refine Calls.mono (show Calls Try.prog 5 #[.agg #[.int .i64 a0_0, .int .i64 a0_1, .slice A0_2 l0_2.length c0_2]] W _ from fairleadlaw11_ShowLines.calls k a0_0 a0_1 A0_2 c0_2 l0_2 true T W hr0_2 hc0_2 hT ⟨hP, rfl⟩) (fun e W' hp => ?_)
    obtain ⟨he, bel0⟩ := hp
    have bel := bel0
    subst he
    exact ⟨_, rfl, _, _, _, [], _, [], hW', trodAll_mk1 (shut_bool Try.underlying4 _), (trodAll_cons_mk (Below.trod laidOut (by kernel_rfl) (of_decide_eq_true (by kernel_rfl)) k0 bel lt0) trodAll_mk0), rfl, bel.frame _, fun h => by cases h⟩
theorem over : Rows.showLinesRow.holds Try.pinned (OpenSpec.ofChange Rows.showLinesSpec) :=
  OpenClaim.holds_of_wide 5 Try.f5 rfl rfl rfl rfl rfl rfl rfl ⟨rfl, rfl, rfl, rfl, rfl⟩ rfl rfl rfl rfl rfl (by kernel_rfl) Try.func5 (by kernel_rfl)
    (of_decide_eq_true (by kernel_rfl)) (by unfold Func.isWrapper; first | (rw [if_pos (by decide +kernel)]; kernel_rfl) | (rw [if_neg (by decide +kernel)]; exact ⟨rfl, rfl⟩))
    (fun os started H enc _ => lifted os started H enc)
theorem proved : Rows.ShowLinesSaid := over
#print axioms proved
end Go.Proofs.Ytmmgcbafdmkhbaa.showLines
namespace Go.Proofs.Ytmmgcbafdmkhbaa
/-- The row, under a short name, for the claim. -/
theorem showLines_holds : Rows.ShowLinesSaid := showLines.proved
end Go.Proofs.Ytmmgcbafdmkhbaa
