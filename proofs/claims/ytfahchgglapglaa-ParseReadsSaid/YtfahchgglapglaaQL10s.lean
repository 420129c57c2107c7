/- Layer 10 (parse), plain: rules are the same as themselves. -/
import Derived.Test.YtfahchgglapglaaQMx0
import Derived.Test.YtfahchgglapglaaQMx5
import Derived.Test.YtfahchgglapglaaQMx10
import Derived.Test.YtfahchgglapglaaQMx20
import Derived.Test.YtfahchgglapglaaQMx21
import Derived.Test.YtfahchgglapglaaQAid
import Derived.Test.YtfahchgglapglaaQM09
import Derived.Test.YtfahchgglapglaaQM09b
import Derived.Test.YtfahchgglapglaaQM09d
import Derived.Test.YtfahchgglapglaaQM09e
import Derived.Test.YtfahchgglapglaaQL10
import Derived.Test.YtfahchgglapglaaQL10b
import Derived.Test.YtfahchgglapglaaQL10c
import Derived.Test.YtfahchgglapglaaQL10d
import Derived.Test.YtfahchgglapglaaQL10e
namespace Go.Proofs.Ytfahchgglapglaa.Pure
open Go Go.RowKit Go.Proofs.Ytfahchgglapglaa.M Go.Proofs.Ytfahchgglapglaa.Aid Go.Proofs.YtfahchgglapglaaW.PrintWords Go.Proofs.YtfahchgglapglaaW.PrintLast Go.Proofs.YtfahchgglapglaaW.PrintMore
set_option linter.unusedVariables false
set_option linter.unusedSimpArgs false
-- NEEDS parse_Parse.f parse_kind.f lex_All.f fairleadref10_Same.f fairleadref10_SameRule.f
-- IMPORT M09
-- IMPORT M09b
-- IMPORT M09d
-- IMPORT M09e
-- IMPORT L10
-- IMPORT L10b
-- IMPORT L10c
-- IMPORT L10d
-- IMPORT L10e
theorem same_l1 (kd ar : Int) (ns : List ByteArray) (cs : List S46) (hc : cs.length ≤ 100000) (d : Nat) : ∀ (k i : Nat), i + d = cs.length → d < k → fairleadref10_SameRule.l1 k i kd ar ns cs kd ar ns cs = some true := by
  induction d with
  | zero =>
    intro k i hi hk
    obtain ⟨k, rfl⟩ : ∃ m, k = m + 1 := ⟨k - 1, by omega⟩
    simp only [fairleadref10_SameRule.l1]
    rw [if_neg (by omega)]
  | succ d ih =>
    intro k i hi hk
    obtain ⟨k, rfl⟩ : ∃ m, k = m + 1 := ⟨k - 1, by omega⟩
    simp only [fairleadref10_SameRule.l1]
    rw [if_pos (by omega), if_pos (by omega), if_pos (by omega), if_neg (by simp), w64_id (by omega) (by omega)]
    have := ih k (i + 1) (by omega) (by omega)
    rwa [show ((i + 1 : Nat) : Int) = (i : Int) + 1 from by omega] at this
theorem same_l0 (kd ar : Int) (ns : List ByteArray) (cs : List S46) (hn : ns.length ≤ 100000) (hc : cs.length ≤ 100000) (d : Nat) : ∀ (k i : Nat), i + d = ns.length → d + cs.length + 2 < k → fairleadref10_SameRule.l0 k i kd ar ns cs kd ar ns cs = some true := by
  induction d with
  | zero =>
    intro k i hi hk
    obtain ⟨k, rfl⟩ : ∃ m, k = m + 1 := ⟨k - 1, by omega⟩
    simp only [fairleadref10_SameRule.l0]
    rw [if_neg (by omega)]
    have := same_l1 kd ar ns cs hc cs.length k 0 (by omega) (by omega)
    rwa [Int.natCast_zero] at this
  | succ d ih =>
    intro k i hi hk
    obtain ⟨k, rfl⟩ : ∃ m, k = m + 1 := ⟨k - 1, by omega⟩
    simp only [fairleadref10_SameRule.l0]
    rw [if_pos (by omega), if_pos (by omega), if_pos (by omega), if_pos trivial, w64_id (by omega) (by omega)]
    have := ih k (i + 1) (by omega) (by omega)
    rwa [show ((i + 1 : Nat) : Int) = (i : Int) + 1 from by omega] at this
theorem same_rule (x : S44) (hx : RuleOk x) (k : Nat) (hk : 60 ≤ k) : fairleadref10_SameRule.f k x.f0.f0 x.f0.f1 x.f1 x.f2 x.f0.f0 x.f0.f1 x.f1 x.f2 = some true := by
  obtain ⟨k, rfl⟩ : ∃ m, k = m + 1 := ⟨k - 1, by omega⟩
  have h1 := hx.names
  have h2 := hx.conds
  unfold fairleadref10_SameRule.f
  rw [if_neg (by simp), if_pos rfl]
  simp only [fairleadref10_SameRule.j0]
  rw [if_neg (by simp)]
  have := same_l0 x.f0.f0 x.f0.f1 x.f1 x.f2 (by omega) (by omega) x.f1.length k 0 (by omega) (by omega)
  rwa [Int.natCast_zero] at this
theorem same_rules (kd ar : Int) (rs : List S44) (hl : rs.length ≤ 100000) (hr : ∀ x ∈ rs, RuleOk x) (d : Nat) : ∀ (k i : Nat), i + d = rs.length → d + 62 < k → fairleadref10_Same.l0 k i kd ar rs kd ar rs = some true := by
  induction d with
  | zero =>
    intro k i hi hk
    obtain ⟨k, rfl⟩ : ∃ m, k = m + 1 := ⟨k - 1, by omega⟩
    simp only [fairleadref10_Same.l0]
    rw [if_neg (by omega)]
  | succ d ih =>
    intro k i hi hk
    obtain ⟨k, rfl⟩ : ∃ m, k = m + 1 := ⟨k - 1, by omega⟩
    have hi' : i < rs.length := by omega
    have hm : rd_T44 rs i ∈ rs := by
      unfold rd_T44
      rw [Int.toNat_natCast, List.getD_eq_getElem?_getD, List.getElem?_eq_getElem hi']
      exact List.getElem_mem hi'
    simp only [fairleadref10_Same.l0]
    rw [if_pos (by omega), if_pos (by omega), if_pos (by omega), same_rule _ (hr _ hm) k (by omega), Option.bind_some, if_pos rfl, w64_id (by omega) (by omega)]
    have := ih k (i + 1) (by omega) (by omega)
    rwa [show ((i + 1 : Nat) : Int) = (i : Int) + 1 from by omega] at this
theorem same10 (kd ar : Int) (rs : List S44) (hl : rs.length ≤ 1000) (hr : ∀ x ∈ rs, RuleOk x) (k : Nat) (hk : 2000 ≤ k) : fairleadref10_Same.f k kd ar rs kd ar rs = some true := by
  obtain ⟨k, rfl⟩ : ∃ m, k = m + 1 := ⟨k - 1, by omega⟩
  unfold fairleadref10_Same.f
  rw [if_neg (by simp)]
  simp only [fairleadref10_Same.j0]
  rw [if_neg (by simp)]
  have := same_rules kd ar rs (by omega) hr rs.length k 0 (by omega) (by omega)
  rwa [Int.natCast_zero] at this
end Go.Proofs.Ytfahchgglapglaa.Pure
