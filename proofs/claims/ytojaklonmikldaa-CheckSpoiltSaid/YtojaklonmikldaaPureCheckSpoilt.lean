/- The law CheckSpoilt, as numbers and lists: what the printed functions say of it is true for every input that the row lets in. -/
import Derived.Test.YtojaklonmikldaaMx6
import Derived.Test.YtojaklonmikldaaAid
import Derived.Test.YtojaklonmikldaaL03k
import Derived.Test.YtojaklonmikldaaL05
import Derived.Test.YtojaklonmikldaaL05b
namespace Go.Proofs.Ytojaklonmikldaa.Pure
open Go Go.RowKit Go.Proofs.Ytojaklonmikldaa.M Go.Proofs.Ytojaklonmikldaa.Aid Go.Proofs.YtojaklonmikldaaW.PrintWords Go.Proofs.YtojaklonmikldaaW.PrintLast Go.Proofs.YtojaklonmikldaaW.PrintMore
set_option linter.unusedVariables false
set_option linter.unusedSimpArgs false

-- IMPORT L03k
-- IMPORT L05
-- IMPORT L05b
theorem spoilt_core (l : List S32) (ho : ∀ x ∈ l, InsOk x) (hl0 : l.length ≠ 0) (hl : l.length ≤ 4096) (n : Nat) (hn : n < l.length) (bad : S32) (hbad : InsOk bad) (e : Int) (he : e ≠ 0)
    (hw : wrongOf ((l.length - 1 - n : Nat) : Int) bad = e) (k : Nat) (hk : 4200 ≤ k) : fairleadlaw05_CheckSpoilt.j1 (k + 1) l n true (l.set n bad) e = some true := by
  have hs := chk_set e he bad l 0 n (by decide) hn hw
  have c1 : CH (l.set n bad) = chkFrom (l.set n bad) 0 := by rw [CH, if_neg (by rw [List.length_set]; exact hl0), if_neg (by rw [List.length_set]; omega)]
  have c2 : CH l = chkFrom l 0 := by rw [CH, if_neg hl0, if_neg (by omega)]
  simp only [fairleadlaw05_CheckSpoilt.j1]
  rw [check_is _ (fun x hx => (List.mem_or_eq_of_mem_set hx).elim (ho x) (fun h => h ▸ hbad)) k hk, check_is l ho k hk, c1, c2]
  simp only [Option.bind_some, if_true, Int.zero_add] at hs ⊢
  by_cases h1 : (chkFrom l 0).1 = 0
  · rw [if_neg (fun h => h.1 h1)] at hs
    rw [if_pos h1, hs]
    simp
  · by_cases h2 : (chkFrom l 0).2 < (n : Int)
    · rw [if_pos ⟨h1, h2⟩] at hs
      rw [if_neg h1, if_pos h2, hs]
      simp
    · rw [if_neg (fun h => h2 h.2)] at hs
      rw [if_neg h1, if_neg h2, hs]
      simp
theorem CheckSpoilt : fairleadlaw05_CheckSpoilt.Pure := by
  intro l a how ⟨_, ho⟩ ha
  refine ⟨4210 + 0, ?_⟩
  generalize hK : 4210 + 0 = K
  have hk : 4210 ≤ K := by omega
  obtain ⟨K, rfl⟩ : ∃ m, K = m + 2 := ⟨K - 2, by omega⟩
  unfold fairleadlaw05_CheckSpoilt.f
  rw [awake05 _ (by omega)]
  simp only [Option.bind_some, fairleadlaw05_CheckSpoilt.j0]
  by_cases h1 : a < 0
  · rw [if_pos h1]; rfl
  · rw [if_neg h1]
    by_cases h2 : l.length = 0
    · rw [if_pos (by omega)]; rfl
    · rw [if_neg (by omega)]
      by_cases h3 : l.length > 4096
      · rw [if_pos (by simp; omega)]
      · have e : Int.tmod a l.length = a % l.length := Int.tmod_eq_emod_of_nonneg (by omega)
        have m0 := Int.emod_nonneg a (b := (l.length : Int)) (by omega)
        have m1 := Int.emod_lt_of_pos a (b := (l.length : Int)) (by omega)
        obtain ⟨n, hn⟩ := Int.eq_ofNat_of_zero_le m0
        rw [if_neg (by simp; omega), if_neg (by omega), if_pos (by simp; omega), e, hn]
        simp only [List.nil_append, Option.bind_some]
        rw [hn] at m1
        rw [if_pos (by omega), if_pos (by omega)]
        simp only [Int.toNat_natCast]
        by_cases h4 : how = true
        · rw [if_pos h4, List.set_set]
          refine spoilt_core l ho h2 (by omega) n (by omega) _ ⟨⟨by decide, by decide⟩, ⟨by decide, by decide⟩, ⟨by decide, by decide⟩, ⟨by decide, by decide⟩⟩ 14 (by decide) ?_ K (by omega)
          have e1 : Knwn 5 := by decide
          have hb : (((l.length - 1 - n : Nat) : Int)) ≤ 4294967295 := by omega
          simp [wrongOf, wrongI, w0, w1, w3, e1, hb]
        · rw [if_neg h4]
          refine spoilt_core l ho h2 (by omega) n (by omega) _ ⟨⟨by decide, by decide⟩, ⟨by decide, by decide⟩, ⟨by decide, by decide⟩, ⟨by decide, by decide⟩⟩ 11 (by decide) ?_ K (by omega)
          have e1 : ¬ Knwn 255 := by decide
          simp [wrongOf, wrongI, e1]

end Go.Proofs.Ytojaklonmikldaa.Pure
