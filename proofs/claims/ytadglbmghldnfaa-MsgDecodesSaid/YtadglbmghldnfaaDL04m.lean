/- Layer 4 (data), plain: the document's numbers. -/
import Derived.Test.YtadglbmghldnfaaDMx0
import Derived.Test.YtadglbmghldnfaaDMx5
import Derived.Test.YtadglbmghldnfaaDMx17
import Derived.Test.YtadglbmghldnfaaDAid
import Derived.Test.YtadglbmghldnfaaDL04a
import Derived.Test.YtadglbmghldnfaaDL04n
namespace Go.Proofs.Ytadglbmghldnfaa.Pure
open Go Go.RowKit Go.Proofs.Ytadglbmghldnfaa.M Go.Proofs.Ytadglbmghldnfaa.Aid Go.Proofs.YtadglbmghldnfaaW.PrintWords Go.Proofs.YtadglbmghldnfaaW.PrintLast Go.Proofs.YtadglbmghldnfaaW.PrintMore
set_option linter.unusedVariables false
set_option linter.unusedSimpArgs false
-- NEEDS data_laid.f data_Halves.f fairleadref04_number.f
-- IMPORT L04a
-- IMPORT L04n
theorem num_loop (l : List Int) (h : ∀ x ∈ l, 0 ≤ x ∧ x ≤ 255) (hl : l.length ≤ 8) : ∀ (i k : Nat), i ≤ l.length → i < k → fairleadref04_number.l0 k l (numL (l.drop i)) ((i : Int) - 1) = some (numL l) := by
  intro i
  induction i with
  | zero =>
    intro k hi hk
    obtain ⟨k, rfl⟩ : ∃ m, k = m + 1 := ⟨k - 1, by omega⟩
    simp only [fairleadref04_number.l0]
    rw [if_neg (by omega)]
    rfl
  | succ i ih =>
    intro k hi hk
    obtain ⟨k, rfl⟩ : ∃ m, k = m + 1 := ⟨k - 1, by omega⟩
    have hr := h _ (rd_memI l i (by omega))
    have hn := numL_7 (l.drop (i + 1)) (fun x hx => h x (List.mem_of_mem_drop hx)) (by rw [List.length_drop]; omega)
    have hd : numL (l.drop i) = rd l i + 256 * numL (l.drop (i + 1)) := by rw [drop_rdI l i (by omega)]; rfl
    have e : ((i + 1 : Nat) : Int) - 1 = (i : Int) := by omega
    have := ih k (by omega) (by omega)
    rw [hd] at this
    simp only [fairleadref04_number.l0, e]
    rw [if_pos (by omega), if_pos (by omega), if_pos (by omega), w64_id (x := (i : Int) - 1) (by omega) (by omega), u64_id (x := rd l i) (by omega) (by omega), u64_id (x := numL (l.drop (i + 1)) * 256) (by omega) (by omega), u64_id (by omega) (by omega)]
    rw [← this]
    congr 1
    omega
theorem num_is (l : List Int) (h : ∀ x ∈ l, 0 ≤ x ∧ x ≤ 255) (hl : l.length ≤ 8) (k : Nat) (hk : 9 ≤ k) : fairleadref04_number.f k l = some (numL l) := by
  unfold fairleadref04_number.f
  have := num_loop l h hl l.length k (Nat.le_refl _) (by omega)
  rw [List.drop_of_length_le (Nat.le_refl _)] at this
  rw [w64_id (by omega) (by omega)]
  exact this
end Go.Proofs.Ytadglbmghldnfaa.Pure
