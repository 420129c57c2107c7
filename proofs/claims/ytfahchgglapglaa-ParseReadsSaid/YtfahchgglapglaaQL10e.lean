/- Layer 10 (parse), plain: places do not matter; what was read is bounded. -/
import Derived.Test.YtfahchgglapglaaQMx0
import Derived.Test.YtfahchgglapglaaQMx5
import Derived.Test.YtfahchgglapglaaQMx10
import Derived.Test.YtfahchgglapglaaQMx21
import Derived.Test.YtfahchgglapglaaQAid
import Derived.Test.YtfahchgglapglaaQM09
import Derived.Test.YtfahchgglapglaaQM09b
import Derived.Test.YtfahchgglapglaaQM09d
import Derived.Test.YtfahchgglapglaaQM09e
import Derived.Test.YtfahchgglapglaaQL10
import Derived.Test.YtfahchgglapglaaQL10b
import Derived.Test.YtfahchgglapglaaQL10c
import Derived.Test.YtfahchgglapglaaQL10d
namespace Go.Proofs.Ytfahchgglapglaa.Pure
open Go Go.RowKit Go.Proofs.Ytfahchgglapglaa.M Go.Proofs.Ytfahchgglapglaa.Aid Go.Proofs.YtfahchgglapglaaW.PrintWords Go.Proofs.YtfahchgglapglaaW.PrintLast Go.Proofs.YtfahchgglapglaaW.PrintMore
set_option linter.unusedVariables false
set_option linter.unusedSimpArgs false
-- NEEDS parse_Parse.f parse_kind.f lex_All.f fairleadref10_Same.f
-- IMPORT M09
-- IMPORT M09b
-- IMPORT M09d
-- IMPORT M09e
-- IMPORT L10
-- IMPORT L10b
-- IMPORT L10c
-- IMPORT L10d
/-- A token without its place. -/
def st (t : S39) : S39 := ⟨t.f0, 0, t.f2, t.f3⟩
structure RuleOk (x : S44) : Prop where
  names : 1 ≤ x.f1.length ∧ x.f1.length ≤ 16
  conds : x.f2.length ≤ 8
theorem names_le {ns : List ByteArray} {ts : List S39} {ns' : List ByteArray} {r : List S39} (h : namesP ns ts = .ok (ns', r)) (hn : ns.length ≤ 16) : 1 ≤ ns'.length ∧ ns'.length ≤ 16 := by
  induction ns, ts using namesP.induct with
  | case1 ns => cases h
  | case2 ns t h1 h2 => simp only [namesP, h1, h2, if_true] at h; cases h
  | case3 ns t h1 h2 => simp only [namesP, h1, h2, if_true, if_false] at h; cases h
  | case4 ns t h1 => simp only [namesP, h1, if_false] at h; cases h
  | case5 ns t u r h1 h2 => simp only [namesP, h1, h2, if_true] at h; cases h
  | case6 ns t u r h1 h2 h3 ih => simp only [namesP, h1, h2, h3, if_true, if_false] at h; exact ih h (by simp; omega)
  | case7 ns t u r h1 h2 h3 => simp only [namesP, h1, h2, h3, if_true, if_false] at h; cases h; simp; omega
  | case8 ns t u r h1 => simp only [namesP, h1, if_false] at h; cases h
theorem conds_le (f : Nat) : ∀ {cs ts cs' r}, condsP f cs ts = .ok (cs', r) → cs.length ≤ 8 → cs'.length ≤ 8 := by
  induction f with
  | zero => intro cs ts cs' r h; cases h
  | succ f ih =>
    intro cs ts cs' r h hc
    simp only [condsP] at h
    cases hp : condP (decide ((cs.length : Int) < 8)) ts with
    | bad e q => rw [hp] at h; cases h
    | ok x =>
      obtain ⟨c, r1⟩ := x
      have hl := of_decide_eq_true (cond_len hp).2
      rw [hp, thenP_ok] at h
      cases r1 with
      | nil => cases h
      | cons u r1 =>
        simp only at h
        by_cases h2 : tkI u 1 ⟨#[97, 110, 100]⟩
        · rw [if_pos h2] at h; exact ih h (by simp; omega)
        · rw [if_neg h2] at h; cases h; simp; omega
theorem tail_shape {kd ar : Int} {ns : List ByteArray} {ts : List S39} {x : S44} {r : List S39} (h : tailP kd ar ns ts = .ok (x, r)) : x.f0 = ⟨kd, ar⟩ ∧ x.f1 = ns ∧ x.f2.length ≤ 8 := by
  unfold tailP at h
  cases hw : whenP ts with
  | bad e q => rw [hw] at h; cases h
  | ok y =>
    obtain ⟨cs, r1⟩ := y
    rw [hw, thenP_ok] at h
    cases hq : semiP r1 with
    | bad e q => simp only [hq] at h; cases h
    | ok z =>
      simp only [hq, thenP_ok] at h
      cases h
      refine ⟨rfl, rfl, ?_⟩
      cases ts with
      | nil => cases hw
      | cons t ts =>
        simp only [whenP] at hw
        by_cases h1 : tkI t 1 ⟨#[119, 104, 101, 110]⟩
        · rw [if_pos h1] at hw; exact conds_le _ hw (by simp)
        · rw [if_neg h1] at hw; cases hw; simp
theorem rule_ok {room : Bool} {ts : List S39} {x : S44} {r : List S39} (h : ruleP room ts = .ok (x, r)) : RuleOk x := by
  unfold ruleP at h
  cases hp : actP room ts with
  | bad e q => rw [hp] at h; cases h
  | ok y =>
    rw [hp, thenP_ok] at h
    cases hq : namesP [] y.2 with
    | bad e q => simp only [hq] at h; cases h
    | ok z =>
      obtain ⟨ns, r2⟩ := z
      simp only [hq, thenP_ok] at h
      obtain ⟨_, e2, e3⟩ := tail_shape h
      exact ⟨by rw [e2]; exact names_le hq (by simp), e3⟩
theorem rule_room {ts : List S39} {y : S44 × List S39} (h : ruleP false ts = .ok y) : False := by
  unfold ruleP at h
  cases ts with
  | nil => cases h
  | cons t ts =>
    simp only [actP] at h
    split at h
    · cases h
    · rw [if_pos trivial] at h; cases h
theorem rules_ok (f : Nat) : ∀ {rs ts out}, rulesP f rs ts = .ok out → rs.length ≤ 64 → (∀ x ∈ rs, RuleOk x) → out.length ≤ 64 ∧ ∀ x ∈ out, RuleOk x := by
  induction f with
  | zero => intro rs ts out h; cases h
  | succ f ih =>
    intro rs ts out h hl hr
    cases ts with
    | nil => cases h
    | cons t r =>
      simp only [rulesP] at h
      by_cases h4 : t.f0 = 4
      · rw [if_pos h4] at h; cases h; exact ⟨hl, hr⟩
      · rw [if_neg h4] at h
        cases hp : ruleP (decide ((rs.length : Int) < 64)) (t :: r) with
        | bad e q => rw [hp] at h; cases h
        | ok y =>
          obtain ⟨x, r1⟩ := y
          have hlt : rs.length < 64 := by
            by_cases hlt : (rs.length : Int) < 64
            · omega
            · rw [decide_eq_false hlt] at hp; exact (rule_room hp).elim
          rw [hp, thenP_ok] at h
          refine ih h (by simp; omega) (fun z hz => ?_)
          rcases List.mem_append.1 hz with hz | hz
          · exact hr z hz
          · rw [List.mem_singleton.1 hz]; exact rule_ok hp
theorem parse_ok {ts : List S39} {x : Int × Int × List S44} (h : parseP ts = .ok x) : x.2.2.length ≤ 64 ∧ ∀ y ∈ x.2.2, RuleOk y := by
  cases ts with
  | nil => cases h
  | cons t r =>
    simp only [parseP] at h
    split at h
    · cases hp : actP true r with
      | bad e q => rw [hp] at h; cases h
      | ok a =>
        rw [hp, thenP_ok] at h
        cases hq : semiP a.2 with
        | bad e q => simp only [hq] at h; cases h
        | ok r1 =>
          simp only [hq, thenP_ok] at h
          cases hs : rulesP (r1.length + 1) [] r1 with
          | bad e q => rw [hs] at h; cases h
          | ok rs =>
            rw [hs, thenP_ok] at h
            cases h
            exact rules_ok _ hs (by simp) (by simp)
    · cases h
theorem PARSE_ok (s : ByteArray) : (PARSE s).2.2.1.length ≤ 64 ∧ ∀ y ∈ (PARSE s).2.2.1, RuleOk y := by
  unfold PARSE
  split
  · cases h : parseP (ALL s).1 with
    | bad e q => simp
    | ok x => exact parse_ok h
  · simp
end Go.Proofs.Ytfahchgglapglaa.Pure
