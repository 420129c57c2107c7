/- The law MsgBack, as numbers and lists: what the printed functions say of it is true for every input that the row lets in. -/
import Derived.Test.YtadglbmghldnfaaMx26
import Derived.Test.YtadglbmghldnfaaAid
import Derived.Test.YtadglbmghldnfaaL02n
import Derived.Test.YtadglbmghldnfaaL02r
import Derived.Test.YtadglbmghldnfaaL17
namespace Go.Proofs.Ytadglbmghldnfaa.Pure
open Go Go.RowKit Go.Proofs.Ytadglbmghldnfaa.M Go.Proofs.Ytadglbmghldnfaa.Aid Go.Proofs.YtadglbmghldnfaaW.PrintWords Go.Proofs.YtadglbmghldnfaaW.PrintLast Go.Proofs.YtadglbmghldnfaaW.PrintMore
set_option linter.unusedVariables false
set_option linter.unusedSimpArgs false

-- IMPORT L02n
-- IMPORT L02r
-- IMPORT L17
theorem back_g (l : List Int) (hb : Byt l) (hl : l.length ≤ 2000) (k : Nat) : fairleadlaw17_MsgBack.g (k + 300) l = some true := by
  obtain ⟨m, e, hd, h⟩ := dec_back l hb hl (k + 100)
  unfold fairleadlaw17_MsgBack.g
  rw [show k + 300 = k + 100 + 200 by omega, hd, Option.bind_some]
  simp only
  rcases h with ⟨he, rfl⟩ | ⟨rfl, hk, hr, rfl⟩
  · rw [if_neg he, if_pos ⟨rfl, rfl, rfl, rfl, rfl, rfl, rfl, rfl, rfl, rfl, rfl, rfl, rfl, rfl, rfl⟩]
  · rw [if_pos rfl, enc_is hk hr (k + 100 + 200) (by omega), Option.bind_some, if_pos rfl]
theorem MsgBack : fairleadlaw17_MsgBack.Pure := by
  intro a0_0 a0_1 a0_2 a0_3 a0_4 a0_5 a0_6 a0_7 a0_8 a0_9 a0_10 a0_11 a0_12 a0_13 a0_14 l1 ⟨h00, h01, h02, h03, h04, hd0, _⟩ ⟨_, hb⟩
  refine ⟨1000, ?_⟩
  unfold fairleadlaw17_MsgBack.f
  rw [show 1000 = 700 + 300 from rfl, awake17 700, Option.bind_some, if_pos rfl]
  by_cases g1 : (a0_14.size : Int) > 2000
  · rw [if_pos g1]
  · rw [if_neg g1]
    by_cases g2 : (l1.length : Int) > 2000
    · rw [if_pos g2]
    · rw [if_neg g2]
      have hm := (⟨h00, h01, h02, h03, h04, by unfold DOk; exact hd0⟩ : MOk ⟨a0_0, a0_1, a0_2, a0_3, a0_4, a0_5, a0_6, a0_7, a0_8, a0_9, a0_10, a0_11, a0_12, a0_13, a0_14⟩)
      have last := back_g l1 hb (by omega) 700
      by_cases rm : MR ⟨a0_0, a0_1, a0_2, a0_3, a0_4, a0_5, a0_6, a0_7, a0_8, a0_9, a0_10, a0_11, a0_12, a0_13, a0_14⟩
      · have e1 := enc_is hm rm 1000 (by omega)
        have e2 := dec_ok hm rm [] (fun x hx => by simp at hx) (by simp) 800
        have e3 := eb_len rm
        rw [List.append_nil, if_pos rfl] at e2
        simp only at e1 e2
        rw [show 700 + 300 = 1000 from rfl, e1, Option.bind_some]
        simp only
        rw [if_pos trivial, show 1000 = 800 + 200 from rfl, e2, Option.bind_some, if_pos ⟨rfl, rfl, rfl, rfl, rfl, rfl, rfl, rfl, rfl, rfl, rfl, rfl, rfl, rfl, rfl, rfl, by omega⟩]
        exact last
      · have e1 := enc_not rm 1000 (by omega)
        simp only at e1
        rw [show 700 + 300 = 1000 from rfl, e1, Option.bind_some]
        simp only
        rw [if_neg (by decide)]
        exact last

end Go.Proofs.Ytadglbmghldnfaa.Pure
