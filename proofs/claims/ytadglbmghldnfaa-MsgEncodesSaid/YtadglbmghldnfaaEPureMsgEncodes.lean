/- The law MsgEncodes, as numbers and lists: what the printed functions say of it is true for every input that the row lets in. -/
import Derived.Test.YtadglbmghldnfaaEMx16
import Derived.Test.YtadglbmghldnfaaEAid
import Derived.Test.YtadglbmghldnfaaEL02n
import Derived.Test.YtadglbmghldnfaaEL02r
import Derived.Test.YtadglbmghldnfaaEL17
import Derived.Test.YtadglbmghldnfaaEL17e
namespace Go.Proofs.Ytadglbmghldnfaa.Pure
open Go Go.RowKit Go.Proofs.Ytadglbmghldnfaa.M Go.Proofs.Ytadglbmghldnfaa.Aid Go.Proofs.YtadglbmghldnfaaW.PrintWords Go.Proofs.YtadglbmghldnfaaW.PrintLast Go.Proofs.YtadglbmghldnfaaW.PrintMore
set_option linter.unusedVariables false
set_option linter.unusedSimpArgs false
-- IMPORT L02n
-- IMPORT L02r
-- IMPORT L17
-- IMPORT L17e
theorem MsgEncodes : fairleadlaw17_MsgEncodes.Pure := by
  intro a0_0 a0_1 a0_2 a0_3 a0_4 a0_5 a0_6 a0_7 a0_8 a0_9 a0_10 a0_11 a0_12 a0_13 a0_14 ⟨h00, h01, h02, h03, h04, hd0, _⟩
  refine ⟨1000, ?_⟩
  unfold fairleadlaw17_MsgEncodes.f
  rw [show 1000 = 700 + 300 from rfl, awake17 700, Option.bind_some]
  by_cases g1 : (a0_14.size : Int) > 2000
  · rw [if_pos g1]
  · rw [if_neg g1]
    obtain ⟨m, hm⟩ : ∃ m : MS, m = ⟨a0_0, a0_1, a0_2, a0_3, a0_4, a0_5, a0_6, a0_7, a0_8, a0_9, a0_10, a0_11, a0_12, a0_13, a0_14⟩ := ⟨_, rfl⟩
    have hk : MOk m := by subst hm; exact ⟨h00, h01, h02, h03, h04, by unfold DOk; exact hd0⟩
    obtain ⟨b1, e1, i1⟩ := right_is m 998
    obtain ⟨b2, e2, i2⟩ := rright_is m 996
    have hb : b1 = b2 := by
      by_cases h : MR m
      · rw [i1.2 h, i2.2 h]
      · rw [Bool.eq_false_iff.2 (fun x => h (i1.1 x)), Bool.eq_false_iff.2 (fun x => h (i2.1 x))]
    have E : ∃ l e, msg_Encode.f 1000 m.kd m.ep m.id m.ts m.vl m.d0 m.d1 m.d2 m.d3 m.d4 m.d5 m.d6 m.d7 m.d8 m.pa = some (l, e) ∧ fairleadref17_Encode.f 1000 m.kd m.ep m.id m.ts m.vl m.d0 m.d1 m.d2 m.d3 m.d4 m.d5 m.d6 m.d7 m.d8 m.pa = some (l, e) := by
      by_cases h : MR m
      · exact ⟨_, _, enc_is hk h 1000 (by omega), renc_is hk h 1000 (by omega)⟩
      · exact ⟨_, _, enc_not h 1000 (by omega), renc_not h 1000 (by omega)⟩
    obtain ⟨l, e, x1, x2⟩ := E
    subst hm hb
    simp only at x1 x2 e1 e2
    rw [show 700 + 300 = 1000 from rfl, x1, Option.bind_some, x2, Option.bind_some, if_pos rfl, show 1000 = 998 + 2 from rfl, e1, Option.bind_some, show 998 + 2 = 996 + 4 from rfl, e2, Option.bind_some, if_pos (by simp), if_pos rfl]
    simp
end Go.Proofs.Ytadglbmghldnfaa.Pure
