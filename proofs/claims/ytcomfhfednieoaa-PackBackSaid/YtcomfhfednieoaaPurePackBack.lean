/- The law PackBack, as numbers and lists: what the printed functions say of it is true for every input that the row lets in. -/
import Derived.Test.YtcomfhfednieoaaMx12
import Derived.Test.YtcomfhfednieoaaAid
import Derived.Test.YtcomfhfednieoaaL02
import Derived.Test.YtcomfhfednieoaaL02r
import Derived.Test.YtcomfhfednieoaaL02s
namespace Go.Proofs.Ytcomfhfednieoaa.Pure
open Go Go.RowKit Go.Proofs.Ytcomfhfednieoaa.M Go.Proofs.Ytcomfhfednieoaa.Aid Go.Proofs.YtcomfhfednieoaaW.PrintWords Go.Proofs.YtcomfhfednieoaaW.PrintLast Go.Proofs.YtcomfhfednieoaaW.PrintMore
set_option linter.unusedVariables false
set_option linter.unusedSimpArgs false

-- IMPORT L02
-- IMPORT L02r
-- IMPORT L02s
theorem back_loop (l : List S32) (ho : ∀ x ∈ l, IOk x) (hll : l.length ≤ 100) (d : Nat) : ∀ (k i : Nat), i + d = l.length → 2 * d + 2 < k → (ALLI (l.drop i)).2 = 0 →
    fairleadlaw02_PackBack.l0 k l true i (ALLI (l.drop i)).1 0 = some true := by
  induction d with
  | zero =>
    intro k i hi hk _
    obtain ⟨k, rfl⟩ : ∃ m, k = m + 1 := ⟨k - 1, by omega⟩
    rw [List.drop_of_length_le (by omega)]
    simp only [fairleadlaw02_PackBack.l0, ALLI]
    rw [if_neg (by omega), if_pos trivial, rend_is]
    rfl
  | succ d ih =>
    intro k i hi hk h0
    obtain ⟨k, rfl⟩ : ∃ m, k = m + 2 := ⟨k - 2, by omega⟩
    have w : wrap64 ((i : Int) + 1) = ((i + 1 : Nat) : Int) := by unfold wrap64; omega
    have hm := ho _ (rd_mem l i (by omega))
    have hd := rd_drop l i (by omega)
    rw [hd] at h0
    obtain ⟨h1, h2, h3⟩ := alli_cons h0
    have key := ih k (i + 1) (by omega) (by omega) h2
    have hb := byt_all (l.drop i)
    have c1 : (i : Int) < (l.length : Int) := by omega
    have c2 : (0 : Int) ≤ (i : Int) := by omega
    rw [hd, h3] at hb ⊢
    clear hd h0 h3
    by_cases ht : (rd_T32 l i).f2 = true
    · have e1 : LAYI (rd_T32 l i) = LAYT (rd_T32 l i).f3 := by unfold LAYI; rw [if_pos ht]
      rw [e1] at h1 hb ⊢
      have hR := rtext_0 hb
      rw [text_read h1] at hR
      rw [fairleadlaw02_PackBack.l0, if_pos c1, if_pos c2, if_pos ht, hR, Option.bind_some, fairleadlaw02_PackBack.j1]
      simp only [bne_self_eq_false]
      rw [if_neg (by decide), if_pos c2, if_pos c1, if_pos ht, w, key]
    · have e1 : LAYI (rd_T32 l i) = LAYN (rd_T32 l i).f0 (rd_T32 l i).f1 := by unfold LAYI; rw [if_neg ht]
      rw [e1] at h1 hb ⊢
      have hR : pack_Reader_Num.f ((LAYN (rd_T32 l i).f0 (rd_T32 l i).f1).1 ++ (ALLI (l.drop (i + 1))).1) 0 (rd_T32 l i).f1 = some ((rd_T32 l i).f0, (ALLI (l.drop (i + 1))).1, 0) := by
        unfold pack_Reader_Num.f
        rw [rnum_0 hb, num_read hm.1 h1]
      rw [fairleadlaw02_PackBack.l0, if_pos c1, if_pos c2, if_neg ht, fairleadlaw02_PackBack.j1, if_neg (by decide), if_pos c2, if_pos c1, if_neg ht, hR, Option.bind_some]
      simp only
      rw [if_pos trivial, w, key]
theorem PackBack : fairleadlaw02_PackBack.Pure := by
  intro l ⟨_, ho⟩
  have ho2 : ∀ x ∈ l, IOk x := fun x hx => (ho x hx).1
  refine ⟨1000, ?_⟩
  generalize hK : 1000 = K
  have hk : 1000 ≤ K := by omega
  clear hK ho
  unfold fairleadlaw02_PackBack.f
  obtain ⟨b, e, hb⟩ := few_is l K (by omega)
  rw [awake02, Option.bind_some, e, Option.bind_some]
  cases b with
  | false => rw [if_neg (by decide)]
  | true =>
    have hl := hb rfl
    rw [if_pos rfl, laid_is l ho2 (by omega), Option.bind_some]
    by_cases h0 : (ALLI l).2 = 0
    · have hlen := all_len2 l
      rw [if_pos h0, read_is _ (by omega), Option.bind_some]
      exact back_loop l ho2 hl l.length K 0 (by omega) (by omega) h0
    · rw [if_neg h0]

end Go.Proofs.Ytcomfhfednieoaa.Pure
