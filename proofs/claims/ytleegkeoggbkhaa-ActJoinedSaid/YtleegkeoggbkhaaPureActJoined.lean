/- The law ActJoined, as numbers and lists: what the printed functions say of it is true for every input that the row lets in. -/
import Derived.Test.YtleegkeoggbkhaaMx8
import Derived.Test.YtleegkeoggbkhaaAid
import Derived.Test.YtleegkeoggbkhaaL07
import Derived.Test.YtleegkeoggbkhaaL07m
namespace Go.Proofs.Ytleegkeoggbkhaa.Pure
open Go Go.RowKit Go.Proofs.Ytleegkeoggbkhaa.M Go.Proofs.Ytleegkeoggbkhaa.Aid Go.Proofs.YtleegkeoggbkhaaW.PrintWords Go.Proofs.YtleegkeoggbkhaaW.PrintLast Go.Proofs.YtleegkeoggbkhaaW.PrintMore
set_option linter.unusedVariables false
set_option linter.unusedSimpArgs false

-- IMPORT L07
-- IMPORT L07m
theorem mst_join (a b : List Int) (ha : a ≠ []) (hb : b ≠ []) : MST (a ++ b) = MST [MST a, MST b] := by
  cases a with
  | nil => exact absurd rfl ha
  | cons x a =>
    cases b with
    | nil => exact absurd rfl hb
    | cons y b =>
      show (a ++ y :: b).foldl stp x = stp (a.foldl stp x) (b.foldl stp y)
      rw [List.foldl_append, List.foldl_cons, fold_stp]
theorem ActJoined : fairleadlaw07_ActJoined.Pure := by
  intro a b ⟨_, ha⟩ ⟨_, hb⟩
  have skip : ∀ k, fairleadlaw07_ActJoined.j0 (k + 1) a b true true = some true := fun k => by
    simp only [fairleadlaw07_ActJoined.j0]
    simp only [if_true]
  by_cases c1 : (a.length : Int) > 500
  · refine ⟨10 + 1, ?_⟩
    unfold fairleadlaw07_ActJoined.f
    rw [awake07 _ (by decide)]
    simp only [Option.bind_some]
    rw [if_pos c1]
    exact skip 10
  · by_cases c2 : (b.length : Int) > 500
    · refine ⟨10 + 1, ?_⟩
      unfold fairleadlaw07_ActJoined.f
      rw [awake07 _ (by decide)]
      simp only [Option.bind_some]
      rw [if_neg c1, if_pos c2]
      exact skip 10
    · by_cases c3 : (a.length : Int) = 0
      · refine ⟨10 + 1, ?_⟩
        unfold fairleadlaw07_ActJoined.f
        rw [awake07 _ (by decide)]
        simp only [Option.bind_some]
        rw [if_neg c1, if_neg c2, if_pos c3]
        exact skip 10
      · by_cases c4 : (b.length : Int) = 0
        · refine ⟨10 + 1, ?_⟩
          unfold fairleadlaw07_ActJoined.f
          rw [awake07 _ (by decide)]
          simp only [Option.bind_some]
          rw [if_neg c1, if_neg c2, if_neg c3, beq_iff_eq.2 c4]
          exact skip 10
        · have a0 : a ≠ [] := fun h => c3 (by rw [h]; rfl)
          have b0 : b ≠ [] := fun h => c4 (by rw [h]; rfl)
          obtain ⟨K1, h1⟩ := most_ev (a ++ b) (fun x hx => (List.mem_append.1 hx).elim (ha x) (hb x)) (by rw [List.length_append]; omega)
          obtain ⟨K2, h2⟩ := most_ev a ha (by omega)
          obtain ⟨K3, h3⟩ := most_ev b hb (by omega)
          obtain ⟨K4, h4⟩ := most_ev [MST a, MST b] (fun x hx => by
            simp only [List.mem_cons, List.not_mem_nil, or_false] at hx
            rcases hx with rfl | rfl
            · exact ha _ (mst_mem a0)
            · exact hb _ (mst_mem b0)) (by simp)
          refine ⟨K1 + K2 + K3 + K4 + 10 + 1, ?_⟩
          have h1' := h1 (K1 + K2 + K3 + K4 + 10) (by omega)
          have h2' := h2 (K1 + K2 + K3 + K4 + 10) (by omega)
          have h3' := h3 (K1 + K2 + K3 + K4 + 10) (by omega)
          have h4' := h4 (K1 + K2 + K3 + K4 + 10) (by omega)
          simp only at h1' h2' h3' h4'
          unfold fairleadlaw07_ActJoined.f
          rw [awake07 _ (by omega)]
          simp only [Option.bind_some]
          rw [if_neg c1, if_neg c2, if_neg c3, beq_eq_false_iff_ne.2 c4]
          simp only [fairleadlaw07_ActJoined.j0]
          rw [if_neg (by decide)]
          simp only [Option.bind_some, List.nil_append, List.length_nil]
          rw [if_pos (by omega), if_pos (by omega), if_pos trivial, h1', h2', h3']
          simp only [Option.bind_some]
          rw [h4', mst_join a b a0 b0]
          simp

end Go.Proofs.Ytleegkeoggbkhaa.Pure
