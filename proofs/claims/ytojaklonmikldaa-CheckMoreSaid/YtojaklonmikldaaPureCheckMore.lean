/- The law CheckMore, as numbers and lists: what the printed functions say of it is true for every input that the row lets in. -/
import Derived.Test.YtojaklonmikldaaMx5
import Derived.Test.YtojaklonmikldaaAid
import Derived.Test.YtojaklonmikldaaL05
import Derived.Test.YtojaklonmikldaaL05b
namespace Go.Proofs.Ytojaklonmikldaa.Pure
open Go Go.RowKit Go.Proofs.Ytojaklonmikldaa.M Go.Proofs.Ytojaklonmikldaa.Aid Go.Proofs.YtojaklonmikldaaW.PrintWords Go.Proofs.YtojaklonmikldaaW.PrintLast Go.Proofs.YtojaklonmikldaaW.PrintMore
set_option linter.unusedVariables false
set_option linter.unusedSimpArgs false

-- IMPORT L05
-- IMPORT L05b
theorem ld_wrong (b a : Int) : wrongOf b ⟨0, 0, 0, a⟩ = if b = 0 then 15 else 0 := by
  have e1 : Knwn 0 := by decide
  have e2 : ¬ Jmps 0 := by decide
  have e3 : ¬ Endd 0 := by decide
  simp [wrongOf, wrongI, w0, w1, w3, w4, w5, e1, e2, e3]
theorem CheckMore : fairleadlaw05_CheckMore.Pure := by
  intro l a ⟨_, ho⟩ ha
  refine ⟨4200 + 0, ?_⟩
  generalize hK : 4200 + 0 = K
  have hk : 4200 ≤ K := by omega
  unfold fairleadlaw05_CheckMore.f
  rw [awake05 K hk]
  simp only [Option.bind_some]
  by_cases h1 : (l.length : Int) > 4095
  · rw [if_pos h1]
  · rw [if_neg h1, if_pos (by simp only [List.length_singleton]; omega), check_is l ho K hk, check_is _ (by
      intro x hx
      simp only [List.singleton_append, List.mem_cons] at hx
      rcases hx with rfl | hx
      · exact ⟨⟨Int.le_refl 0, show (0 : Int) ≤ 65535 by decide⟩, ⟨Int.le_refl 0, show (0 : Int) ≤ 255 by decide⟩, ⟨Int.le_refl 0, show (0 : Int) ≤ 255 by decide⟩, ha⟩
      · exact ho x hx) K hk]
    simp only [Option.bind_some, if_true, List.singleton_append]
    have e : CH (⟨0, 0, 0, a⟩ :: l) = if l.length = 0 then (15, 0) else chkFrom l 1 := by
      simp only [CH, List.length_cons, chkFrom, ld_wrong]
      rw [if_neg (by omega), if_neg (by omega)]
      by_cases h2 : l.length = 0
      · simp [h2]
      · have : ¬ ((l.length : Int) = 0) := by omega
        simp [h2, this]
    by_cases h2 : l.length = 0
    · rw [e, if_pos h2]
      simp [CH, h2]
    · have e2 : CH l = chkFrom l 0 := by
        simp only [CH]
        rw [if_neg h2, if_neg (by omega)]
      obtain ⟨s1, s2, s3, s4⟩ := chk_shift l 0 1 (by omega)
      rw [Int.zero_add] at s1 s2
      have hne : (chkFrom l 0).1 ≠ 10 := by
        have : ∀ (l : List S32) (i : Int), (chkFrom l i).1 ≠ 10 := by
          intro l
          induction l with
          | nil => intro i; simp [chkFrom]
          | cons x r ih =>
            intro i
            simp only [chkFrom]
            split
            · exact ih _
            · simp only [wrongOf, wrongI, w0, w1, w3, w4, w5]
              repeat' split
              all_goals decide
        exact this l 0
      rw [e, if_neg h2, e2, if_neg hne]
      by_cases h3 : (chkFrom l 0).1 = 0
      · rw [if_pos h3, s1, if_pos h3, s2, if_pos h3]
        simp
      · have h4 := s4 h3
        have w : wrap64 ((chkFrom l 0).2 + 1) = (chkFrom l 0).2 + 1 := by unfold wrap64; omega
        rw [if_neg h3, s1, s2, if_neg h3, w]
        simp

end Go.Proofs.Ytojaklonmikldaa.Pure
