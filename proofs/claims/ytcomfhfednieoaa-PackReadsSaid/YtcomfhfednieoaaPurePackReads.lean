/- The law PackReads, as numbers and lists: what the printed functions say of it is true for every input that the row lets in. -/
import Derived.Test.YtcomfhfednieoaaMx11
import Derived.Test.YtcomfhfednieoaaAid
import Derived.Test.YtcomfhfednieoaaL02
import Derived.Test.YtcomfhfednieoaaL02r
import Derived.Test.YtcomfhfednieoaaL02s
namespace Go.Proofs.Ytcomfhfednieoaa.Pure
open Go Go.RowKit Go.Proofs.Ytcomfhfednieoaa.M Go.Proofs.Ytcomfhfednieoaa.Aid Go.Proofs.YtcomfhfednieoaaW.PrintWords Go.Proofs.YtcomfhfednieoaaW.PrintLast Go.Proofs.YtcomfhfednieoaaW.PrintMore
set_option linter.unusedVariables false
set_option linter.unusedSimpArgs false

-- IMPORT L02
-- IMPORT L02r
-- IMPORT L02s
theorem reads_loop (l0 l1 : List Int) (hb0 : Byt l0) (hll0 : l0.length ≤ 20000) (hll : l1.length ≤ 200) (d : Nat) : ∀ (k i a : Nat) (e : Int), i + d = l1.length → 2 * d + 14 < k → a ≤ l0.length →
    fairleadlaw02_PackReads.l0 k l0 l1 true a e i (l0.drop a) e = some true := by
  induction d with
  | zero =>
    intro k i a e hi hk ha
    obtain ⟨k, rfl⟩ : ∃ m, k = m + 1 := ⟨k - 1, by omega⟩
    rw [fairleadlaw02_PackReads.l0, if_neg (by omega)]
    simp only [if_true, rend_is, Option.bind_some, List.length_drop]
    by_cases he : e = 0
    · subst he
      rw [if_pos rfl]
      by_cases h2 : (a : Int) < (l0.length : Int)
      · rw [if_pos h2, if_neg (show ¬ l0.length - a = 0 by omega)]; rfl
      · rw [if_neg h2, if_pos (show l0.length - a = 0 by omega)]; rfl
    · rw [if_neg he, if_neg he]; simp
  | succ d ih =>
    intro k i a e hi hk ha
    obtain ⟨k, rfl⟩ : ∃ m, k = m + 2 := ⟨k - 2, by omega⟩
    have w : wrap64 ((i : Int) + 1) = ((i + 1 : Nat) : Int) := by unfold wrap64; omega
    have c1 : (i : Int) < (l1.length : Int) := by omega
    have c2 : (0 : Int) ≤ (i : Int) := by omega
    have c3 : (0 : Int) ≤ (a : Int) := by omega
    have c4 : (a : Int) ≤ (l0.length : Int) := by omega
    have hb := hb0.drop a
    have hlen : (l0.drop a).length = l0.length - a := List.length_drop
    rw [fairleadlaw02_PackReads.l0, if_pos c1, if_pos c2]
    by_cases hz : rd l1 i = 0
    · rw [if_pos hz]
      by_cases he : e = 0
      · subst he
        rw [rtext_0 hb, Option.bind_some, if_pos c3, if_pos c4, Int.toNat_natCast, rtaketext_is _ hb (by omega) _ (by omega), Option.bind_some, if_pos rfl]
        have hv := val_2 (hb.take 2) (by rw [List.length_take]; omega)
        unfold RTEXT TT
        by_cases h1 : (l0.drop a).length < 2
        · rw [if_pos h1, if_pos h1, if_pos rfl, w]
          simp only [Int.add_zero]
          rw [w64_id2 (by omega) (by omega)]
          exact ih (k + 1) (i + 1) a 2 (by omega) (by omega) ha
        · rw [if_neg h1, if_neg h1]
          by_cases h2 : VAL ((l0.drop a).take 2) ≤ ((l0.drop a).length : Int) - 2
          · rw [if_pos h2, if_pos h2, if_pos rfl, w]
            simp only
            have e1 : wrap64 ((a : Int) + (2 + VAL ((l0.drop a).take 2))) = ((a + 2 + (VAL ((l0.drop a).take 2)).toNat : Nat) : Int) := by rw [w64_id2 (by omega) (by omega)]; omega
            rw [e1, List.drop_drop, List.drop_drop, ← Nat.add_assoc]
            exact ih (k + 1) (i + 1) _ 0 (by omega) (by omega) (by omega)
          · rw [if_neg h2, if_neg h2, if_pos rfl, w]
            simp only [Int.add_zero]
            rw [w64_id2 (by omega) (by omega)]
            exact ih (k + 1) (i + 1) a 2 (by omega) (by omega) ha
      · rw [rtext_e _ e he, Option.bind_some, if_pos c3, if_pos c4, Int.toNat_natCast, rtaketext_is _ hb (by omega) _ (by omega), Option.bind_some, if_neg he, if_pos (by rw [ByteArray.toList_eq]), w]
        simp only [Int.add_zero]
        rw [w64_id2 (by omega) (by omega)]
        exact ih (k + 1) (i + 1) a e (by omega) (by omega) ha
    · rw [if_neg hz]
      unfold pack_Reader_Num.f
      rw [Option.bind_some, if_pos c3, if_pos c4, Int.toNat_natCast, rtake_is _ hb _ _ (by omega), Option.bind_some]
      by_cases he : e = 0
      · subst he
        rw [if_pos rfl, rnum_0 hb, fairleadlaw02_PackReads.j2]
        unfold RNUM TK
        by_cases h1 : rd l1 i < 1 ∨ 8 < rd l1 i
        · simp only [h1, if_true]
          rw [if_neg (by decide), w]
          exact ih k (i + 1) a 1 (by omega) (by omega) ha
        · simp only [h1, if_false]
          by_cases h2 : rd l1 i ≤ ((l0.drop a).length : Int)
          · have h3 : ¬ ((l0.drop a).length : Int) < rd l1 i := by omega
            simp only [h2, h3, if_true, if_false]
            have e1 : wrap64 ((a : Int) + rd l1 i) = ((a + (rd l1 i).toNat : Nat) : Int) := by rw [w64_id2 (by omega) (by omega)]; omega
            rw [if_pos c2, if_pos c1, w, e1, List.drop_drop]
            exact ih k (i + 1) _ 0 (by omega) (by omega) (by omega)
          · have h3 : ((l0.drop a).length : Int) < rd l1 i := by omega
            simp only [h2, h3, if_true, if_false]
            rw [if_neg (by decide), w]
            exact ih k (i + 1) a 2 (by omega) (by omega) ha
      · rw [if_neg he, rnum_e _ e _ he, fairleadlaw02_PackReads.j2, if_pos rfl, if_neg he, w]
        exact ih k (i + 1) a e (by omega) (by omega) ha
theorem PackReads : fairleadlaw02_PackReads.Pure := by
  intro l0 l1 ⟨_, h0⟩ _
  refine ⟨1000, ?_⟩
  generalize hK : 1000 = K
  have hk : 1000 ≤ K := by omega
  clear hK
  unfold fairleadlaw02_PackReads.f
  rw [awake02, Option.bind_some]
  obtain ⟨k, rfl⟩ : ∃ m, K = m + 1 := ⟨K - 1, by omega⟩
  have skip : fairleadlaw02_PackReads.j0 (k + 1) l0 l1 true true = some true := by simp only [fairleadlaw02_PackReads.j0]; rw [if_pos trivial]
  by_cases h1 : (l0.length : Int) > 20000
  · rw [if_pos h1, skip]
  · rw [if_neg h1]
    by_cases h2 : (l1.length : Int) > 200
    · rw [decide_eq_true h2, skip]
    · rw [decide_eq_false h2, fairleadlaw02_PackReads.j0, if_neg (by decide), read_is _ (by omega), Option.bind_some]
      exact reads_loop l0 l1 h0 (by omega) (by omega) l1.length k 0 0 0 (by omega) (by omega) (by omega)

end Go.Proofs.Ytcomfhfednieoaa.Pure
