/- The law DataHalves, as numbers and lists: what the printed functions say of it is true for every input that the row lets in. -/
import Derived.Test.YtkbdbphcdehmhaaMx7
import Derived.Test.YtkbdbphcdehmhaaAid
import Derived.Test.YtkbdbphcdehmhaaL04
namespace Go.Proofs.Ytkbdbphcdehmhaa.Pure
open Go Go.RowKit Go.Proofs.Ytkbdbphcdehmhaa.M Go.Proofs.Ytkbdbphcdehmhaa.Aid Go.Proofs.YtkbdbphcdehmhaaW.PrintWords Go.Proofs.YtkbdbphcdehmhaaW.PrintLast Go.Proofs.YtkbdbphcdehmhaaW.PrintMore
set_option linter.unusedVariables false
set_option linter.unusedSimpArgs false

-- IMPORT L04
theorem or_lohi {x : Int} (hx : 0 ≤ x ∧ x ≤ 18446744073709551615) : Go.bits .or .u64 (IntKind.u64.wrap ((IntKind.u64.wrap (hi x)) * 4294967296)) (IntKind.u64.wrap (lo x)) = x := by
  have h1 := hi_in x
  have h2 := lo_in x
  rw [u64_id (x := hi x) (by omega) (by omega), u64_id (x := lo x) (by omega) (by omega), u64_id (by omega) (by omega), show Go.bits .or .u64 (hi x * 4294967296) (lo x) = Go.bits .or .u64 (lo x) (hi x * 4294967296) from by simp only [Go.bits, BitVec.or_comm], u64_or32 _ _ (by omega) (by omega) (by omega) (by omega) (by omega)]
  unfold lo hi
  omega
theorem DataHalves : fairleadlaw04_DataHalves.Pure := by
  intro a0 a1 a2 a3 a4 a5 a6 a7 a8 p h hp
  refine ⟨(100 + 0) + 1, ?_⟩
  generalize hK : 100 + 0 = K
  have hk : 100 ≤ K := by omega
  unfold fairleadlaw04_DataHalves.f data_Place.f
  rw [awake04 (K + 1) (by omega)]
  simp only [Option.bind_some]
  by_cases h1 : p < 0
  · rw [if_pos h1]
    simp only [Option.bind_some]
    rw [if_pos h1]
    simp [fairleadlaw04_DataHalves.j0]
  · rw [if_neg h1]
    by_cases h2 : p > 5
    · rw [if_pos h2]
      simp only [Option.bind_some]
      rw [if_neg h1, decide_eq_true h2]
      simp [fairleadlaw04_DataHalves.j0]
    · rw [if_neg h2]
      simp only [Option.bind_some]
      rw [if_neg h1, decide_eq_false h2]
      have e1 : wrap64 (16 + wrap64 (8 * p)) % 4294967296 = 16 + 8 * p := by rw [w64_id (x := 8 * p) (by omega) (by omega), w64_id (by omega) (by omega)]; omega
      have e2 : (16 + 8 * p + 4) % 4294967296 = 20 + 8 * p := by omega
      rw [e1, e2]
      obtain ⟨x, hx, hx1, hx2, hx3⟩ : ∃ x : Int, (0 ≤ x ∧ x ≤ 18446744073709551615) ∧ rd ([a3, a4, a5, a6, a7, a8] : List Int) p = x ∧ rd (WS a0 a1 a2 a3 a4 a5 a6 a7 a8) ((16 + 8 * p) / 4) = lo x ∧ rd (WS a0 a1 a2 a3 a4 a5 a6 a7 a8) ((20 + 8 * p) / 4) = hi x := by
        obtain ⟨h0, h1', h2', h3, h4, h5, h6, h7, h8⟩ := h
        have : p = 0 ∨ p = 1 ∨ p = 2 ∨ p = 3 ∨ p = 4 ∨ p = 5 := by omega
        rcases this with rfl | rfl | rfl | rfl | rfl | rfl
        · exact ⟨a3, h3, rfl, rfl, rfl⟩
        · exact ⟨a4, h4, rfl, rfl, rfl⟩
        · exact ⟨a5, h5, rfl, rfl, rfl⟩
        · exact ⟨a6, h6, rfl, rfl, rfl⟩
        · exact ⟨a7, h7, rfl, rfl, rfl⟩
        · exact ⟨a8, h8, rfl, rfl, rfl⟩
      have eh : data_Halves.f x = some (lo x, hi x) := rfl
      simp only [fairleadlaw04_DataHalves.j0]
      rw [if_neg (by decide), load_is _ _ _ _ _ _ _ _ _ _ (by omega) K (by omega), load_is _ _ _ _ _ _ _ _ _ _ (by omega) K (by omega), if_pos ⟨by omega, by omega⟩, if_pos ⟨by omega, by omega⟩, hx1, hx2, hx3, eh]
      simp only [Option.bind_some, or_lohi hx, e2]
      rw [if_pos (by omega), if_pos (by omega)]
      simp [e1]

end Go.Proofs.Ytkbdbphcdehmhaa.Pure
