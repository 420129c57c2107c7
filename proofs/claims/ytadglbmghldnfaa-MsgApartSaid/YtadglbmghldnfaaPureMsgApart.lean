/- The law MsgApart, as numbers and lists: what the printed functions say of it is true for every input that the row lets in. -/
import Derived.Test.YtadglbmghldnfaaMx28
import Derived.Test.YtadglbmghldnfaaAid
import Derived.Test.YtadglbmghldnfaaL02n
import Derived.Test.YtadglbmghldnfaaL02r
import Derived.Test.YtadglbmghldnfaaL17
namespace Go.Proofs.Ytadglbmghldnfaa.Pure
open Go Go.RowKit Go.Proofs.Ytadglbmghldnfaa.M Go.Proofs.Ytadglbmghldnfaa.Aid Go.Proofs.YtadglbmghldnfaaW.PrintWords Go.Proofs.YtadglbmghldnfaaW.PrintLast Go.Proofs.YtadglbmghldnfaaW.PrintMore
set_option linter.unusedVariables false
set_option linter.unusedSimpArgs false

-- IMPORT L02n
-- IMPORT L02r
-- IMPORT L17
theorem eb_inj {m n : MS} (hm : MOk m) (hn : MOk n) (rm : MR m) (rn : MR n) (h : EB m = EB n) : m = n := by
  have h1 := dec_ok hm rm [] (fun x hx => by simp at hx) (by simp) 0
  have h2 := dec_ok hn rn [] (fun x hx => by simp at hx) (by simp) 0
  rw [h, h2] at h1
  simp only [if_true, Option.some.injEq, Prod.mk.injEq] at h1
  cases m; cases n
  simp only at h1
  simp only [MS.mk.injEq]
  obtain ⟨e0, e1, e2, e3, e4, e5, e6, e7, e8, e9, e10, e11, e12, e13, e14, _⟩ := h1
  exact ⟨e0.symm, e1.symm, e2.symm, e3.symm, e4.symm, e5.symm, e6.symm, e7.symm, e8.symm, e9.symm, e10.symm, e11.symm, e12.symm, e13.symm, e14.symm⟩
theorem list_inj {s t : ByteArray} (h : s.toList = t.toList) : s = t := by
  rw [ByteArray.toList_eq, ByteArray.toList_eq] at h
  have := Array.toList_inj.1 h
  cases s; cases t; simp_all
theorem MsgApart : fairleadlaw17_MsgApart.Pure := by
  intro a0_0 a0_1 a0_2 a0_3 a0_4 a0_5 a0_6 a0_7 a0_8 a0_9 a0_10 a0_11 a0_12 a0_13 a0_14 a1_0 a1_1 a1_2 a1_3 a1_4 a1_5 a1_6 a1_7 a1_8 a1_9 a1_10 a1_11 a1_12 a1_13 a1_14 ⟨h00, h01, h02, h03, h04, hd0, _⟩ ⟨h10, h11, h12, h13, h14, hd1, _⟩
  refine ⟨1000, ?_⟩
  unfold fairleadlaw17_MsgApart.f
  rw [show 1000 = 700 + 300 from rfl, awake17 700, Option.bind_some]
  have skip : fairleadlaw17_MsgApart.j0 (700 + 300) true true a0_0 a0_1 a0_2 a0_3 a0_4 a0_5 a0_6 a0_7 a0_8 a0_9 a0_10 a0_11 a0_12 a0_13 a0_14 a1_0 a1_1 a1_2 a1_3 a1_4 a1_5 a1_6 a1_7 a1_8 a1_9 a1_10 a1_11 a1_12 a1_13 a1_14 = some true := by simp only [show 700 + 300 = 999 + 1 from rfl, fairleadlaw17_MsgApart.j0]; rw [if_pos trivial]
  by_cases g1 : (a0_14.size : Int) > 2000
  · rw [if_pos g1, skip]
  · rw [if_neg g1]
    by_cases g2 : (a1_14.size : Int) > 2000
    · rw [decide_eq_true g2, skip]
    · rw [decide_eq_false g2, show 700 + 300 = 999 + 1 from rfl, fairleadlaw17_MsgApart.j0, if_neg (by decide)]
      have hm := (⟨h00, h01, h02, h03, h04, by unfold DOk; exact hd0⟩ : MOk ⟨a0_0, a0_1, a0_2, a0_3, a0_4, a0_5, a0_6, a0_7, a0_8, a0_9, a0_10, a0_11, a0_12, a0_13, a0_14⟩)
      have hn := (⟨h10, h11, h12, h13, h14, by unfold DOk; exact hd1⟩ : MOk ⟨a1_0, a1_1, a1_2, a1_3, a1_4, a1_5, a1_6, a1_7, a1_8, a1_9, a1_10, a1_11, a1_12, a1_13, a1_14⟩)
      by_cases rm : MR ⟨a0_0, a0_1, a0_2, a0_3, a0_4, a0_5, a0_6, a0_7, a0_8, a0_9, a0_10, a0_11, a0_12, a0_13, a0_14⟩
      · have e1 := enc_is hm rm 999 (by omega)
        simp only at e1
        rw [e1, Option.bind_some]
        by_cases rn : MR ⟨a1_0, a1_1, a1_2, a1_3, a1_4, a1_5, a1_6, a1_7, a1_8, a1_9, a1_10, a1_11, a1_12, a1_13, a1_14⟩
        · have e2 := enc_is hn rn 999 (by omega)
          simp only at e2
          rw [e2, Option.bind_some]
          simp only [if_true]
          rw [str_beq (fun x hx => by have := byt_eb _ x hx; omega) (fun x hx => by have := byt_eb _ x hx; omega)]
          refine congrArg some ?_
          by_cases he : EB ⟨a0_0, a0_1, a0_2, a0_3, a0_4, a0_5, a0_6, a0_7, a0_8, a0_9, a0_10, a0_11, a0_12, a0_13, a0_14⟩ = EB ⟨a1_0, a1_1, a1_2, a1_3, a1_4, a1_5, a1_6, a1_7, a1_8, a1_9, a1_10, a1_11, a1_12, a1_13, a1_14⟩
          · rw [decide_eq_true he]
            have h := eb_inj hm hn rm rn he
            simp only [MS.mk.injEq] at h
            obtain ⟨rfl, rfl, rfl, rfl, rfl, rfl, rfl, rfl, rfl, rfl, rfl, rfl, rfl, rfl, rfl⟩ := h
            simp
          · rw [decide_eq_false he, beq_iff_eq, eq_comm, Bool.eq_false_iff]
            intro hq
            simp only [Bool.and_eq_true, beq_iff_eq] at hq
            obtain ⟨e0, e1, e2, e3, e4, ⟨e5, e6, e7, e8, e9, e10, e11, e12, e13⟩, e14⟩ := hq
            refine he ?_
            rw [e0, e1, e2, e3, e4, e5, e6, e7, e8, e9, e10, e11, e12, e13, list_inj e14]
        · have e2 := enc_not rn 999 (by omega)
          simp only at e2
          rw [e2, Option.bind_some]
          simp only [if_true]
          rw [if_neg (by decide)]
      · have e1 := enc_not rm 999 (by omega)
        simp only at e1
        rw [e1, Option.bind_some]
        by_cases rn : MR ⟨a1_0, a1_1, a1_2, a1_3, a1_4, a1_5, a1_6, a1_7, a1_8, a1_9, a1_10, a1_11, a1_12, a1_13, a1_14⟩
        · have e2 := enc_is hn rn 999 (by omega)
          simp only at e2
          rw [e2, Option.bind_some]
          simp only
          rw [if_neg (by decide)]
        · have e2 := enc_not rn 999 (by omega)
          simp only at e2
          rw [e2, Option.bind_some]
          simp only
          rw [if_neg (by decide)]

end Go.Proofs.Ytadglbmghldnfaa.Pure
