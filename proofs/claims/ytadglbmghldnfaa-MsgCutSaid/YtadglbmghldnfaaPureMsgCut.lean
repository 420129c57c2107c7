/- The law MsgCut, as numbers and lists: what the printed functions say of it is true for every input that the row lets in. -/
import Derived.Test.YtadglbmghldnfaaMx27
import Derived.Test.YtadglbmghldnfaaAid
import Derived.Test.YtadglbmghldnfaaL02n
import Derived.Test.YtadglbmghldnfaaL02r
import Derived.Test.YtadglbmghldnfaaL17
import Derived.Test.YtadglbmghldnfaaL17c
namespace Go.Proofs.Ytadglbmghldnfaa.Pure
open Go Go.RowKit Go.Proofs.Ytadglbmghldnfaa.M Go.Proofs.Ytadglbmghldnfaa.Aid Go.Proofs.YtadglbmghldnfaaW.PrintWords Go.Proofs.YtadglbmghldnfaaW.PrintLast Go.Proofs.YtadglbmghldnfaaW.PrintMore
set_option linter.unusedVariables false
set_option linter.unusedSimpArgs false

-- IMPORT L02n
-- IMPORT L02r
-- IMPORT L17
-- IMPORT L17c
theorem MsgCut : fairleadlaw17_MsgCut.Pure := by
  intro a0_0 a0_1 a0_2 a0_3 a0_4 a0_5 a0_6 a0_7 a0_8 a0_9 a0_10 a0_11 a0_12 a0_13 a0_14 a1 l2 ⟨h00, h01, h02, h03, h04, hd0, _⟩ ha ⟨_, hb⟩
  refine ⟨1000, ?_⟩
  unfold fairleadlaw17_MsgCut.f
  rw [show 1000 = 700 + 300 from rfl, awake17 700, Option.bind_some, if_pos rfl]
  by_cases g1 : (a0_14.size : Int) > 2000
  · rw [if_pos g1]
  · rw [if_neg g1]
    by_cases g2 : (l2.length : Int) > 500
    · rw [if_pos g2]
    · rw [if_neg g2]
      by_cases g3 : a1 < 0
      · rw [if_pos g3]
      · rw [if_neg g3]
        have hm := (⟨h00, h01, h02, h03, h04, by unfold DOk; exact hd0⟩ : MOk ⟨a0_0, a0_1, a0_2, a0_3, a0_4, a0_5, a0_6, a0_7, a0_8, a0_9, a0_10, a0_11, a0_12, a0_13, a0_14⟩)
        by_cases rm : MR ⟨a0_0, a0_1, a0_2, a0_3, a0_4, a0_5, a0_6, a0_7, a0_8, a0_9, a0_10, a0_11, a0_12, a0_13, a0_14⟩
        · have e1 := enc_is hm rm 1000 (by omega)
          have e3 := eb_len rm
          have e4 := byt_eb ⟨a0_0, a0_1, a0_2, a0_3, a0_4, a0_5, a0_6, a0_7, a0_8, a0_9, a0_10, a0_11, a0_12, a0_13, a0_14⟩
          have e2 := dec_ok hm rm l2 hb (by omega) 800
          have e5 := fun c hc => dec_cut hm rm c hc 800
          generalize hE : EB ⟨a0_0, a0_1, a0_2, a0_3, a0_4, a0_5, a0_6, a0_7, a0_8, a0_9, a0_10, a0_11, a0_12, a0_13, a0_14⟩ = E at *
          have t0 : 0 ≤ Int.tmod a1 (E.length : Int) := by rw [Int.tmod_eq_emod_of_nonneg (by omega)]; exact Int.emod_nonneg _ (by omega)
          have t1 : Int.tmod a1 (E.length : Int) < (E.length : Int) := by rw [Int.tmod_eq_emod_of_nonneg (by omega)]; exact Int.emod_lt_of_pos _ (by omega)
          simp only at e1 e2
          rw [show 700 + 300 = 1000 from rfl, e1, Option.bind_some]
          simp only
          rw [if_pos trivial, if_pos ⟨by omega, by omega, t0, by omega⟩, show 1000 = 800 + 200 from rfl, e5 _ (by omega), Option.bind_some, if_pos ⟨rfl, rfl, rfl, rfl, rfl, rfl, rfl, rfl, rfl, rfl, rfl, rfl, rfl, rfl, rfl, rfl⟩]
          unfold fairleadlaw17_MsgCut.g
          by_cases hl : l2.length = 0
          · rw [if_pos (List.length_eq_zero_iff.1 hl)] at e2
            rw [e2, Option.bind_some, if_pos hl, if_pos ⟨rfl, rfl, rfl, rfl, rfl, rfl, rfl, rfl, rfl, rfl, rfl, rfl, rfl, rfl, rfl, rfl⟩]
          · rw [if_neg (show ¬ l2 = [] from fun h => hl (by rw [h]; rfl))] at e2
            rw [e2, Option.bind_some, if_neg hl, if_pos ⟨rfl, rfl, rfl, rfl, rfl, rfl, rfl, rfl, rfl, rfl, rfl, rfl, rfl, rfl, rfl, rfl⟩]
        · have e1 := enc_not rm 1000 (by omega)
          simp only at e1
          rw [show 700 + 300 = 1000 from rfl, e1, Option.bind_some]
          simp only
          rw [if_neg (by decide), if_pos trivial]

end Go.Proofs.Ytadglbmghldnfaa.Pure
