/- The law InsnBack, as numbers and lists: what the printed functions say of it is true for every input that the row lets in. -/
import Derived.Test.YtfkhhmnkmddjhaaMx10
import Derived.Test.YtfkhhmnkmddjhaaAid
import Derived.Test.YtfkhhmnkmddjhaaL03
import Derived.Test.YtfkhhmnkmddjhaaL03p
namespace Go.Proofs.Ytfkhhmnkmddjhaa.Pure
open Go Go.RowKit Go.Proofs.Ytfkhhmnkmddjhaa.M Go.Proofs.Ytfkhhmnkmddjhaa.Aid Go.Proofs.YtfkhhmnkmddjhaaW.PrintWords Go.Proofs.YtfkhhmnkmddjhaaW.PrintLast Go.Proofs.YtfkhhmnkmddjhaaW.PrintMore
set_option linter.unusedVariables false
set_option linter.unusedSimpArgs false

-- IMPORT L03
-- IMPORT L03p
theorem back_j2 (K : Nat) (hk : 5 ≤ K) (b : List Int) (hb : ∀ x ∈ b, 0 ≤ x ∧ x ≤ 255) (c : Int) (hc : (c == 0) = ((b.length : Int) % 8 == 0)) : fairleadlaw03_InsnBack.j2 (K + 1) b true c false = some true := by
  simp only [fairleadlaw03_InsnBack.j2]
  rw [if_neg (by decide), hc]
  rcases Nat.lt_trichotomy b.length 8 with hl | hl | hl
  · rw [(decode_short hl K).1]
    have : ((b.length : Int) == 8) = false := beq_eq_false_iff_ne.2 (by omega)
    simp [this]
  · rw [decode8 hb hl K hk]
    have e : insn_Encode.f (rd b 0 + 256 * rd b 1) (rd b 2) (rd b 3) (rd b 4 + 256 * rd b 5 + 65536 * rd b 6 + 16777216 * rd b 7) = some b := by
      have := enc_is (decI b)
      rwa [enc_dec hb hl] at this
    simp only [Option.bind_some, dec8, e, if_true]
    simp [hl]
  · rw [(decode_long hl K).1]
    have : ((b.length : Int) == 8) = false := beq_eq_false_iff_ne.2 (by omega)
    simp [this]
theorem InsnBack : fairleadlaw03_InsnBack.Pure := by
  intro l b ⟨_, ho⟩ ⟨_, hb⟩
  refine ⟨(20001 + 0) + 3, ?_⟩
  generalize hK : 20001 + 0 = K
  have hk : 20001 ≤ K := by omega
  unfold fairleadlaw03_InsnBack.f
  rw [awake03]
  simp only [Option.bind_some]
  have skip : fairleadlaw03_InsnBack.j0 (K + 3) l b true true = some true := by simp only [fairleadlaw03_InsnBack.j0]; rw [if_pos trivial]
  by_cases h1 : (l.length : Int) > 3000
  · rw [if_pos h1, skip]
  · rw [if_neg h1]
    by_cases h2 : (b.length : Int) > 20000
    · rw [decide_eq_true h2, skip]
    · rw [decide_eq_false h2]
      have ho' : ∀ x ∈ l, InsOk x := fun x hx => ho x hx
      have e1 := bytes_is ho' (by omega) (K + 2) (by omega)
      have e2 := all_is (flat_in l ho') (by rw [flat_len]; omega) (K + 2) (by omega)
      have e3 : ALL (l.flatMap encI) = (l, 0) := by
        unfold ALL
        rw [flat_len, if_pos (by omega), show 8 * l.length / 8 = l.length from by omega, all_flat l ho']
      have e4 := all_is hb (by omega) (K + 1) (by omega)
      simp only [fairleadlaw03_InsnBack.j0]
      rw [if_neg (by decide), e1.1]
      simp only [Option.bind_some]
      rw [e2.1, e3]
      simp only [Option.bind_some]
      rw [same3 _ (by omega) (K + 2) (by omega)]
      simp only [Option.bind_some, if_true, fairleadlaw03_InsnBack.j1]
      rw [if_neg (by decide), e4.1]
      simp only [Option.bind_some]
      unfold ALL
      by_cases hm : b.length % 8 = 0
      · rw [if_pos hm]
        simp only [if_true]
        rw [(bytes_is (all_in _ b hb) (by rw [all_len]; omega) (K + 1) (by omega)).1, flat_all _ b hb (by omega)]
        simp only [Option.bind_some, bne_self_eq_false]
        exact back_j2 K (by omega) b hb 0 (by rw [show (b.length : Int) % 8 = 0 from by omega])
      · rw [if_neg hm]
        have : ¬ (3 : Int) = 0 := by decide
        simp only [this, if_false]
        exact back_j2 K (by omega) b hb 3 (by rw [beq_eq_false_iff_ne.2 (show (b.length : Int) % 8 ≠ 0 by omega)]; rfl)

end Go.Proofs.Ytfkhhmnkmddjhaa.Pure
