/- The law CheckTail, as numbers and lists: what the printed functions say of it is true for every input that the row lets in. -/
import Derived.Test.YtojaklonmikldaaMx5
import Derived.Test.YtojaklonmikldaaAid
import Derived.Test.YtojaklonmikldaaL05
import Derived.Test.YtojaklonmikldaaL05b
namespace Go.Proofs.Ytojaklonmikldaa.Pure
open Go Go.RowKit Go.Proofs.Ytojaklonmikldaa.M Go.Proofs.Ytojaklonmikldaa.Aid Go.Proofs.YtojaklonmikldaaW.PrintWords Go.Proofs.YtojaklonmikldaaW.PrintLast Go.Proofs.YtojaklonmikldaaW.PrintMore
set_option linter.unusedVariables false
set_option linter.unusedSimpArgs false

-- IMPORT L05
-- IMPORT L05b
theorem CheckTail : fairleadlaw05_CheckTail.Pure := by
  intro l a ⟨_, ho⟩ ha
  refine ⟨4200 + 0, ?_⟩
  generalize hK : 4200 + 0 = K
  have hk : 4200 ≤ K := by omega
  unfold fairleadlaw05_CheckTail.f
  rw [awake05 K hk, check_is l ho K hk]
  simp only [Option.bind_some]
  by_cases h : (CH l).1 = 0
  · rw [if_pos h]
    obtain ⟨h1, h2, h3, _⟩ := CH_ok h
    by_cases h4 : a < 0
    · rw [if_pos h4]
    · have e : Int.tmod a l.length = a % l.length := Int.tmod_eq_emod_of_nonneg (by omega)
      have m0 := Int.emod_nonneg a (b := (l.length : Int)) (by omega)
      have m1 := Int.emod_lt_of_pos a (b := (l.length : Int)) (by omega)
      rw [if_neg h4, if_neg (by omega), e, if_pos m0, if_pos (by omega), check_is _ (fun x hx => ho x (List.mem_of_mem_drop hx)) K hk]
      have hl : (l.drop (a % (l.length : Int)).toNat).length = l.length - (a % (l.length : Int)).toNat := List.length_drop
      have e2 : CH (l.drop (a % (l.length : Int)).toNat) = (0, -1) := by
        rw [CH, if_neg (by omega), if_neg (by omega)]
        exact chk_drop l 0 0 _ (by decide) h3
      rw [e2]
      rfl
  · rw [if_neg h]

end Go.Proofs.Ytojaklonmikldaa.Pure
