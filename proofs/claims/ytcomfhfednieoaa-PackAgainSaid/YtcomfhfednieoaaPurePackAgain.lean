/- The law PackAgain, as numbers and lists: what the printed functions say of it is true for every input that the row lets in. -/
import Derived.Test.YtcomfhfednieoaaMx13
import Derived.Test.YtcomfhfednieoaaAid
import Derived.Test.YtcomfhfednieoaaL02
import Derived.Test.YtcomfhfednieoaaL02r
import Derived.Test.YtcomfhfednieoaaL02s
namespace Go.Proofs.Ytcomfhfednieoaa.Pure
open Go Go.RowKit Go.Proofs.Ytcomfhfednieoaa.M Go.Proofs.Ytcomfhfednieoaa.Aid Go.Proofs.YtcomfhfednieoaaW.PrintWords Go.Proofs.YtcomfhfednieoaaW.PrintLast Go.Proofs.YtcomfhfednieoaaW.PrintMore
set_option linter.unusedVariables false
set_option linter.unusedSimpArgs false

-- IMPORT L02
-- IMPORT L02r
-- IMPORT L02s
theorem again_loop (l0 l1 : List Int) (hll : l1.length ≤ 200) (d : Nat) : ∀ (k i : Nat) (x7 : List S32) (L : List Int) (e : Int), i + d = l1.length → d < k → x7.length ≤ i →
    (e ≠ 0 ∨ (e = 0 ∧ Byt L ∧ (∀ x ∈ x7, IOk x) ∧ (ALLI x7).2 = 0 ∧ l0 = (ALLI x7).1 ++ L)) → fairleadlaw02_PackAgain.l0 k l0 l1 true x7 i L e = some true := by
  induction d with
  | zero =>
    intro k i x7 L e hi hk h7 hs
    obtain ⟨k, rfl⟩ : ∃ m, k = m + 1 := ⟨k - 1, by omega⟩
    rw [fairleadlaw02_PackAgain.l0, if_neg (by omega), rend_is, Option.bind_some]
    rcases hs with he | ⟨rfl, hb, ho, h0, rfl⟩
    · simp only
      rw [if_neg he, if_neg he]
    · simp only
      rw [if_pos trivial]
      by_cases hL : L.length = 0
      · obtain rfl : L = [] := List.length_eq_zero_iff.1 hL
        rw [if_pos (show (if ([] : List Int).length = 0 then (0 : Int) else 3) = 0 from rfl), laid_is x7 ho (by omega), Option.bind_some, if_pos trivial, if_pos h0]
        simp
      · rw [if_neg hL, if_neg (by decide)]
  | succ d ih =>
    intro k i x7 L e hi hk h7 hs
    obtain ⟨k, rfl⟩ : ∃ m, k = m + 1 := ⟨k - 1, by omega⟩
    have w : wrap64 ((i : Int) + 1) = ((i + 1 : Nat) : Int) := by unfold wrap64; omega
    rw [fairleadlaw02_PackAgain.l0, if_pos (show (i : Int) < (l1.length : Int) by omega), if_pos (show (0 : Int) ≤ (i : Int) by omega)]
    have key := fun x7 L e h => ih k (i + 1) x7 L e (by omega) (by omega) h
    have hc : x7.length < 3518437208883 := by omega
    have hl : ∀ x, (x7 ++ [x]).length ≤ i + 1 := fun x => by rw [List.length_append, List.length_singleton]; omega
    by_cases hz : rd l1 i = 0
    · rw [if_pos hz]
      rcases hs with he | ⟨rfl, hb, ho, h0, rfl⟩
      · rw [rtext_e L e he, Option.bind_some, if_pos hc, w]
        exact key _ _ _ (hl _) (.inl he)
      · rw [rtext_0 hb, Option.bind_some, if_pos hc, w]
        refine key _ _ _ (hl _) ?_
        rcases text_back hb with h | ⟨a1, a2, a3, a4⟩
        · exact .inl h
        · refine .inr ⟨a3, a4, ?_, ?_, ?_⟩
          · intro x hx
            rcases List.mem_append.1 hx with hx | hx
            · exact ho x hx
            · rw [List.mem_singleton.1 hx]; exact ⟨Int.le_refl 0, show (0 : Int) ≤ 18446744073709551615 by decide⟩
          · rw [alli_snoc _ (by unfold LAYI; rw [if_pos rfl]; exact a1) x7 h0]
          · rw [alli_snoc _ (by unfold LAYI; rw [if_pos rfl]; exact a1) x7 h0]
            simp only
            conv => lhs; rw [← a2]
            rw [List.append_assoc]
            rfl
    · rw [if_neg hz]
      unfold pack_Reader_Num.f
      rw [Option.bind_some, if_pos hc, w]
      rcases hs with he | ⟨rfl, hb, ho, h0, rfl⟩
      · rw [rnum_e L e _ he]
        exact key _ _ _ (hl _) (.inl he)
      · rw [rnum_0 hb]
        refine key _ _ _ (hl _) ?_
        rcases num_back hb (rd l1 i) with h | ⟨a1, a2, a3, a4, a5, a6⟩
        · exact .inl h
        · refine .inr ⟨a3, a4, ?_, ?_, ?_⟩
          · intro x hx
            rcases List.mem_append.1 hx with hx | hx
            · exact ho x hx
            · rw [List.mem_singleton.1 hx]; exact ⟨a5, a6⟩
          · rw [alli_snoc _ (by unfold LAYI; rw [if_neg (by simp)]; exact a1) x7 h0]
          · rw [alli_snoc _ (by unfold LAYI; rw [if_neg (by simp)]; exact a1) x7 h0]
            simp only
            conv => lhs; rw [← a2]
            rw [List.append_assoc]
            rfl
theorem PackAgain : fairleadlaw02_PackAgain.Pure := by
  intro l0 l1 ⟨_, h0⟩ _
  refine ⟨1000, ?_⟩
  generalize hK : 1000 = K
  have hk : 1000 ≤ K := by omega
  clear hK
  unfold fairleadlaw02_PackAgain.f
  rw [awake02, Option.bind_some]
  obtain ⟨k, rfl⟩ : ∃ m, K = m + 1 := ⟨K - 1, by omega⟩
  have skip : fairleadlaw02_PackAgain.j0 (k + 1) l0 l1 true true = some true := by simp only [fairleadlaw02_PackAgain.j0]; rw [if_pos trivial]
  by_cases h1 : (l0.length : Int) > 20000
  · rw [if_pos h1, skip]
  · rw [if_neg h1]
    by_cases h2 : (l1.length : Int) > 200
    · rw [decide_eq_true h2, skip]
    · rw [decide_eq_false h2, fairleadlaw02_PackAgain.j0, if_neg (by decide), read_is _ (by omega), Option.bind_some]
      exact again_loop l0 l1 (by omega) l1.length k 0 [] l0 0 (by omega) (by omega) (by simp) (.inr ⟨rfl, h0, by simp, rfl, rfl⟩)

end Go.Proofs.Ytcomfhfednieoaa.Pure
