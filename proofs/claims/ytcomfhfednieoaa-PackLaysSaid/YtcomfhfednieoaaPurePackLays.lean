/- The law PackLays, as numbers and lists: what the printed functions say of it is true for every input that the row lets in. -/
import Derived.Test.YtcomfhfednieoaaMx4
import Derived.Test.YtcomfhfednieoaaAid
import Derived.Test.YtcomfhfednieoaaL02
namespace Go.Proofs.Ytcomfhfednieoaa.Pure
open Go Go.RowKit Go.Proofs.Ytcomfhfednieoaa.M Go.Proofs.Ytcomfhfednieoaa.Aid Go.Proofs.YtcomfhfednieoaaW.PrintWords Go.Proofs.YtcomfhfednieoaaW.PrintLast Go.Proofs.YtcomfhfednieoaaW.PrintMore
set_option linter.unusedVariables false
set_option linter.unusedSimpArgs false

-- IMPORT L02
theorem lays_loop (l : List S32) (ho : ∀ x ∈ l, IOk x) (hll : l.length ≤ 100) (x5 : List Int) (x6 : Int) (d : Nat) : ∀ (k i : Nat) (x7 : List Int), i + d = l.length → 2 * d + 20 < k → x7.length + 65537 * d ≤ 100000000000 →
    x6 = (ALLI (l.drop i)).2 → (x6 = 0 → x5 = x7 ++ (ALLI (l.drop i)).1) → (x6 ≠ 0 → x5 = []) → fairleadlaw02_PackLays.l0 k l true x5 x6 x7 0 i = some true := by
  induction d with
  | zero =>
    intro k i x7 hi hk _ h6 h5 _
    obtain ⟨k, rfl⟩ : ∃ m, k = m + 2 := ⟨k - 2, by omega⟩
    rw [List.drop_of_length_le (by omega)] at h6 h5
    simp only [ALLI] at h6 h5
    subst h6
    rw [h5 rfl]
    simp only [fairleadlaw02_PackLays.l0, fairleadlaw02_PackLays.j1]
    rw [if_neg (by omega)]
    simp
  | succ d ih =>
    intro k i x7 hi hk hx7 h6 h5 h50
    obtain ⟨k, rfl⟩ : ∃ m, k = m + 4 := ⟨k - 4, by omega⟩
    have w : wrap64 ((i : Int) + 1) = ((i + 1 : Nat) : Int) := by unfold wrap64; have := hi; omega
    have hm := ho _ (rd_mem l i (by omega))
    have hl := layi_len (rd_T32 l i)
    rw [rd_drop l i (by omega)] at h6 h5
    rw [fairleadlaw02_PackLays.l0, if_pos (by omega), fairleadlaw02_PackLays.j1]
    rw [if_pos (show ((0 : Int) == 0) = true from rfl), if_pos (show (0 : Int) ≤ i by omega), if_pos (show (i : Int) < l.length by omega), rlay_is _ _ hm _ (by omega), Option.bind_some, w]
    clear w
    have key : fairleadlaw02_PackLays.l0 (k + 2) l true x5 x6 (x7 ++ (LAYI (rd_T32 l i)).1) (LAYI (rd_T32 l i)).2 ((i + 1 : Nat) : Int) = some true := by
      by_cases hx : (LAYI (rd_T32 l i)).2 = 0
      · rw [hx]
        refine ih (k + 2) (i + 1) _ (by omega) (by omega) (by rw [List.length_append]; omega) ?_ ?_ h50
        · rw [h6]; simp only [ALLI, hx, if_true]
        · intro h; rw [h5 h]; simp only [ALLI, hx, if_true]; rw [if_pos, List.append_assoc]
          rw [h] at h6; simp only [ALLI, hx, if_true] at h6; exact h6.symm
      · have e6 : x6 = (LAYI (rd_T32 l i)).2 := by rw [h6]; simp only [ALLI, if_neg hx]
        rw [h50 (by rw [e6]; exact hx), ← e6]
        simp only [fairleadlaw02_PackLays.l0, fairleadlaw02_PackLays.j1]
        rw [e6, show ((LAYI (rd_T32 l i)).2 == 0) = false from beq_eq_false_iff_ne.2 hx]
        split <;> simp [hx]
    by_cases ht : (rd_T32 l i).f2 = true
    · have e1 : LAYI (rd_T32 l i) = LAYT (rd_T32 l i).f3 := by unfold LAYI; rw [if_pos ht]
      rw [e1] at key hl
      rw [if_pos ht, rtext_is _ _ (by omega), Option.bind_some, key, if_pos (by omega)]
    · have e1 : LAYI (rd_T32 l i) = LAYN (rd_T32 l i).f0 (rd_T32 l i).f1 := by unfold LAYI; rw [if_neg ht]
      rw [e1] at key hl
      rw [if_neg ht, key, if_pos (by omega)]
theorem PackLays : fairleadlaw02_PackLays.Pure := by
  intro l ⟨_, ho⟩
  have ho2 : ∀ x ∈ l, IOk x := fun x hx => (ho x hx).1
  refine ⟨1000, ?_⟩
  generalize hK : 1000 = K
  have hk : 1000 ≤ K := by omega
  clear hK ho
  unfold fairleadlaw02_PackLays.f
  obtain ⟨b, e, hb⟩ := few_is l K (by omega)
  rw [awake02, Option.bind_some, e, Option.bind_some]
  cases b with
  | false => rw [if_neg (by decide)]
  | true =>
    have hl := hb rfl
    rw [if_pos rfl, laid_is l ho2 (by omega), Option.bind_some]
    exact lays_loop l ho2 hl _ _ l.length K 0 [] (by omega) (by omega) (by simp; omega) rfl (fun _ => rfl) (fun h => alli_e l h)

end Go.Proofs.Ytcomfhfednieoaa.Pure
