/- The law PackCut, as numbers and lists: what the printed functions say of it is true for every input that the row lets in. -/
import Derived.Test.YtcomfhfednieoaaMx15
import Derived.Test.YtcomfhfednieoaaAid
import Derived.Test.YtcomfhfednieoaaL02
import Derived.Test.YtcomfhfednieoaaL02r
import Derived.Test.YtcomfhfednieoaaL02s
namespace Go.Proofs.Ytcomfhfednieoaa.Pure
open Go Go.RowKit Go.Proofs.Ytcomfhfednieoaa.M Go.Proofs.Ytcomfhfednieoaa.Aid Go.Proofs.YtcomfhfednieoaaW.PrintWords Go.Proofs.YtcomfhfednieoaaW.PrintLast Go.Proofs.YtcomfhfednieoaaW.PrintMore
set_option linter.unusedVariables false
set_option linter.unusedSimpArgs false

-- IMPORT L02
-- IMPORT L02r
-- IMPORT L02s
theorem cut_loop (l : List S32) (ho : ∀ x ∈ l, IOk x) (hll : l.length ≤ 100) (d : Nat) : ∀ (k i : Nat) (L : List Int) (e : Int), i + d = l.length → d < k → (ALLI (l.drop i)).2 = 0 →
    (e = 2 ∨ (e = 0 ∧ ∃ c, c < (ALLI (l.drop i)).1.length ∧ L = (ALLI (l.drop i)).1.take c)) → fairleadlaw02_PackCut.l0 k l true i L e = some true := by
  induction d with
  | zero =>
    intro k i L e hi hk _ hs
    obtain ⟨k, rfl⟩ : ∃ m, k = m + 1 := ⟨k - 1, by omega⟩
    rw [List.drop_of_length_le (by omega)] at hs
    have he : e = 2 := by
      rcases hs with hs | ⟨_, c, hc, _⟩
      · exact hs
      · simp [ALLI] at hc
    subst he
    simp only [fairleadlaw02_PackCut.l0]
    rw [if_neg (by omega), if_pos trivial, rend_is]
    rfl
  | succ d ih =>
    intro k i L e hi hk h0 hs
    obtain ⟨k, rfl⟩ : ∃ m, k = m + 1 := ⟨k - 1, by omega⟩
    have w : wrap64 ((i : Int) + 1) = ((i + 1 : Nat) : Int) := by unfold wrap64; omega
    have hm := ho _ (rd_mem l i (by omega))
    have hd := rd_drop l i (by omega)
    rw [hd] at h0 hs
    obtain ⟨h1, h2, h3⟩ := alli_cons h0
    have key := fun L e => ih k (i + 1) L e (by omega) (by omega) h2
    have hb := byt_all (l.drop i)
    have c1 : (i : Int) < (l.length : Int) := by omega
    have c2 : (0 : Int) ≤ (i : Int) := by omega
    rw [hd, h3] at hb
    rw [h3] at hs
    clear hd h0 h3
    by_cases ht : (rd_T32 l i).f2 = true
    · have e1 : LAYI (rd_T32 l i) = LAYT (rd_T32 l i).f3 := by unfold LAYI; rw [if_pos ht]
      rw [e1] at h1 hb hs
      rw [fairleadlaw02_PackCut.l0, if_pos c1, if_pos c2, if_pos ht]
      rcases hs with rfl | ⟨rfl, c, hc, rfl⟩
      · rw [rtext_e L 2 (by decide), Option.bind_some, w]
        exact key _ _ (.inl rfl)
      · rw [rtext_0 (hb.take c), Option.bind_some, w]
        by_cases hc2 : c < (LAYT (rd_T32 l i).f3).1.length
        · refine key _ _ (.inl ?_)
          rw [List.take_append_of_le_length (by omega)]
          exact text_cut h1 c hc2
        · rw [List.length_append] at hc
          rw [List.take_append, List.take_of_length_le (l := (LAYT (rd_T32 l i).f3).1) (by omega), text_read h1]
          exact key _ _ (.inr ⟨rfl, _, by omega, rfl⟩)
    · have e1 : LAYI (rd_T32 l i) = LAYN (rd_T32 l i).f0 (rd_T32 l i).f1 := by unfold LAYI; rw [if_neg ht]
      rw [e1] at h1 hb hs
      rw [fairleadlaw02_PackCut.l0, if_pos c1, if_pos c2, if_neg ht]
      unfold pack_Reader_Num.f
      rw [Option.bind_some, w]
      rcases hs with rfl | ⟨rfl, c, hc, rfl⟩
      · rw [rnum_e L 2 _ (by decide)]
        exact key _ _ (.inl rfl)
      · rw [rnum_0 (hb.take c)]
        by_cases hc2 : c < (LAYN (rd_T32 l i).f0 (rd_T32 l i).f1).1.length
        · refine key _ _ (.inl ?_)
          rw [List.take_append_of_le_length (by omega)]
          exact num_cut h1 c hc2
        · rw [List.length_append] at hc
          rw [List.take_append, List.take_of_length_le (l := (LAYN (rd_T32 l i).f0 (rd_T32 l i).f1).1) (by omega), num_read hm.1 h1]
          exact key _ _ (.inr ⟨rfl, _, by omega, rfl⟩)
theorem PackCut : fairleadlaw02_PackCut.Pure := by
  intro l a ⟨_, ho⟩ ha
  have ho2 : ∀ x ∈ l, IOk x := fun x hx => (ho x hx).1
  refine ⟨1000, ?_⟩
  generalize hK : 1000 = K
  have hk : 1000 ≤ K := by omega
  clear hK ho
  unfold fairleadlaw02_PackCut.f
  obtain ⟨b, e, hb⟩ := few_is l K (by omega)
  rw [awake02, Option.bind_some, e, Option.bind_some]
  clear e
  obtain ⟨k, rfl⟩ : ∃ m, K = m + 2 := ⟨K - 2, by omega⟩
  have skip : fairleadlaw02_PackCut.j0 (k + 2) l a true true = some true := by simp only [fairleadlaw02_PackCut.j0]; rw [if_pos trivial]
  cases b with
  | false => rw [if_neg (by decide), skip]
  | true =>
    have hl := hb rfl
    rw [if_pos rfl]
    by_cases hn : a < 0
    · rw [decide_eq_true hn, skip]
    · rw [decide_eq_false hn, fairleadlaw02_PackCut.j0, if_neg (by decide), laid_is l ho2 (by omega), Option.bind_some]
      have hlen := all_len2 l
      by_cases h0 : (ALLI l).2 = 0
      · rw [if_pos h0, fairleadlaw02_PackCut.j1]
        by_cases h1 : ((ALLI l).1.length : Int) = 0
        · rw [if_pos (by simpa using h1)]
        · have h2 : 0 < (ALLI l).1.length := by omega
          have h3 : 0 ≤ Int.tmod a (ALLI l).1.length := by rw [Int.tmod_eq_emod_of_nonneg (by omega)]; exact Int.emod_nonneg _ (by omega)
          have h4 : Int.tmod a (ALLI l).1.length < (ALLI l).1.length := by rw [Int.tmod_eq_emod_of_nonneg (by omega)]; exact Int.emod_lt_of_pos _ (by omega)
          rw [if_neg (by simpa using h1), if_neg h1, if_pos h3, if_pos (by omega), read_is _ (by rw [List.length_take]; omega), Option.bind_some]
          exact cut_loop l ho2 hl l.length _ 0 _ _ (by omega) (by omega) h0 (.inr ⟨rfl, _, by rw [List.drop_zero]; omega, rfl⟩)
      · rw [if_neg h0, fairleadlaw02_PackCut.j1, if_pos rfl]

end Go.Proofs.Ytcomfhfednieoaa.Pure
