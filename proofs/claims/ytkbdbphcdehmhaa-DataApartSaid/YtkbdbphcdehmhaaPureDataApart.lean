/- The law DataApart, as numbers and lists: what the printed functions say of it is true for every input that the row lets in. -/
import Derived.Test.YtkbdbphcdehmhaaMx3
import Derived.Test.YtkbdbphcdehmhaaAid
import Derived.Test.YtkbdbphcdehmhaaL04
namespace Go.Proofs.Ytkbdbphcdehmhaa.Pure
open Go Go.RowKit Go.Proofs.Ytkbdbphcdehmhaa.M Go.Proofs.Ytkbdbphcdehmhaa.Aid Go.Proofs.YtkbdbphcdehmhaaW.PrintWords Go.Proofs.YtkbdbphcdehmhaaW.PrintLast Go.Proofs.YtkbdbphcdehmhaaW.PrintMore
set_option linter.unusedVariables false
set_option linter.unusedSimpArgs false

-- IMPORT L04
theorem lohi {x y : Int} (hx : 0 ≤ x ∧ x ≤ 18446744073709551615) (hy : 0 ≤ y ∧ y ≤ 18446744073709551615) (h : lo x = lo y) (h' : hi x = hi y) : x = y := by
  unfold lo at h
  unfold hi at h'
  omega
theorem DataApart : fairleadlaw04_DataApart.Pure := by
  intro a0 a1 a2 a3 a4 a5 a6 a7 a8 c0 c1 c2 c3 c4 c5 c6 c7 c8 h h'
  refine ⟨100 + 0, ?_⟩
  generalize hK : 100 + 0 = K
  unfold fairleadlaw04_DataApart.f
  rw [awake04 K (by omega), bytes_is _ _ _ _ _ _ _ _ _ K (by omega), bytes_is _ _ _ _ _ _ _ _ _ K (by omega)]
  simp only [Option.bind_some, if_true]
  rw [str_beq (flat_in _) (flat_in _)]
  refine congrArg some ?_
  have key : ((WS a0 a1 a2 a3 a4 a5 a6 a7 a8).flatMap b4 = (WS c0 c1 c2 c3 c4 c5 c6 c7 c8).flatMap b4) ↔ (a0 = c0 ∧ a1 = c1 ∧ a2 = c2 ∧ a3 = c3 ∧ a4 = c4 ∧ a5 = c5 ∧ a6 = c6 ∧ a7 = c7 ∧ a8 = c8) := by
    constructor
    · intro e
      have e2 := flat_inj (ws_in h) (ws_in h') rfl e
      obtain ⟨h0, h1, h2, h3, h4, h5, h6, h7, h8⟩ := h
      obtain ⟨g0, g1, g2, g3, g4, g5, g6, g7, g8⟩ := h'
      simp only [WS, List.cons.injEq, and_true] at e2
      obtain ⟨e0, e1, e2, e3, e4, e5, e6, e7, e8, e9, e10, e11, e12, e13, e14, e15⟩ := e2
      exact ⟨e0, e1, lohi h2 g2 e2 e3, lohi h3 g3 e4 e5, lohi h4 g4 e6 e7, lohi h5 g5 e8 e9, lohi h6 g6 e10 e11, lohi h7 g7 e12 e13, lohi h8 g8 e14 e15⟩
    · rintro ⟨rfl, rfl, rfl, rfl, rfl, rfl, rfl, rfl, rfl⟩
      rfl
  rw [beq_iff_eq, Bool.eq_iff_iff, decide_eq_true_eq, key]
  simp only [Bool.and_eq_true, beq_iff_eq]

end Go.Proofs.Ytkbdbphcdehmhaa.Pure
