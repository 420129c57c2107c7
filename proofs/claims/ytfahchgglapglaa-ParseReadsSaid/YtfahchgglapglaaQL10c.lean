/- Layer 10 (parse), plain: what the program's reader does with tokens. -/
import Derived.Test.YtfahchgglapglaaQMx0
import Derived.Test.YtfahchgglapglaaQMx5
import Derived.Test.YtfahchgglapglaaQMx10
import Derived.Test.YtfahchgglapglaaQAid
import Derived.Test.YtfahchgglapglaaQM09
import Derived.Test.YtfahchgglapglaaQM09b
import Derived.Test.YtfahchgglapglaaQM09d
import Derived.Test.YtfahchgglapglaaQM09e
import Derived.Test.YtfahchgglapglaaQL10
import Derived.Test.YtfahchgglapglaaQL10b
namespace Go.Proofs.Ytfahchgglapglaa.Pure
open Go Go.RowKit Go.Proofs.Ytfahchgglapglaa.M Go.Proofs.Ytfahchgglapglaa.Aid Go.Proofs.YtfahchgglapglaaW.PrintWords Go.Proofs.YtfahchgglapglaaW.PrintLast Go.Proofs.YtfahchgglapglaaW.PrintMore
set_option linter.unusedVariables false
set_option linter.unusedSimpArgs false
-- NEEDS parse_Parse.f parse_kind.f lex_All.f
-- IMPORT M09
-- IMPORT M09b
-- IMPORT M09d
-- IMPORT M09e
-- IMPORT L10
-- IMPORT L10b
def mkR (x : S44) (m : Int) : S44 × Int := (x, m)
def closeP (kd ar : Int) (ns : List ByteArray) (cs : List S46) (ts : List S39) : PRes (S44 × List S39) := thenP (semiP ts) fun r => .ok (⟨⟨kd, ar⟩, ns, cs⟩, r)
theorem e_is {L : List S39} {n : Nat} {ts : List S39} (h : L.drop n = ts) (hG : Good ts) (hz : L.length ≤ 100000) (kd ar : Int) (ns : List ByteArray) (cs : List S46) : Link L mkR (closeP kd ar ns cs ts) (parse_rule.e L n kd ar ns cs) := by
  obtain ⟨t, r, rfl⟩ := hG.ne
  have a := at_p h hz
  unfold closeP parse_rule.e
  simp only [semiP]
  rw [if_pos a.lo, a.rd]
  by_cases h1 : tkI t 3 ⟨#[59]⟩
  · rw [if_pos h1, if_pos (tkX h1), a.w]
    exact ⟨n + 1, rfl, a.tl, hG.tail (by have := h1.1; omega)⟩
  · rw [if_neg h1, if_neg (tkN h1)]
    rfl
theorem conds_is {L : List S39} (hz : L.length ≤ 100000) (kd ar : Int) (ns : List ByteArray) (f : Nat) : ∀ (k n : Nat) (ts : List S39) (cs : List S46), L.drop n = ts → Good ts → ts.length ≤ f → f + 10 < k → cs.length ≤ 8 →
    Link L mkR (thenP (condsP f cs ts) fun y => closeP kd ar ns y.1 y.2) (parse_rule.l1 k L true n kd ar ns cs) := by
  induction f with
  | zero =>
    intro k n ts cs h hG hl
    obtain ⟨t, r, rfl⟩ := hG.ne
    simp at hl
  | succ f ih =>
    intro k n ts cs h hG hl hk hcs
    obtain ⟨k, rfl⟩ : ∃ m, k = m + 1 := ⟨k - 1, by omega⟩
    rw [parse_rule.l1.eq_2, if_pos rfl, if_pos (by omega)]
    simp only [condsP]
    have hc := cond_is h hG hz (decide ((cs.length : Int) < 8)) k (by omega)
    cases hp : condP (decide ((cs.length : Int) < 8)) ts with
    | bad e q =>
      rw [hp] at hc
      rw [show parse_cond.f k L n _ = _ from hc, Option.bind_some]
      rfl
    | ok x =>
      obtain ⟨c, r⟩ := x
      rw [hp] at hc
      obtain ⟨n1, e1, h1, hG1⟩ := hc
      have hlen := cond_len hp
      have hlt := of_decide_eq_true hlen.2
      rw [e1, Option.bind_some, thenP_ok]
      obtain ⟨u, r', rfl⟩ := hG1.ne
      have b := at_p h1 hz
      refine Eq.mp (congrArg (Link L mkR _) (Eq.symm (if_pos b.lo))) ?_
      show Link L mkR (thenP (if tkI u 1 ⟨#[97, 110, 100]⟩ then condsP f (cs ++ [c]) r' else .ok (cs ++ [c], u :: r')) fun y => closeP kd ar ns y.1 y.2) (parse_rule.l1 k L (decide ((rd_T39 L n1).f0 = 1 ∧ (rd_T39 L n1).f2.toList = (⟨#[97, 110, 100]⟩ : ByteArray).toList)) (if (rd_T39 L n1).f0 = 1 ∧ (rd_T39 L n1).f2.toList = (⟨#[97, 110, 100]⟩ : ByteArray).toList then wrap64 ((n1 : Int) + 1) else n1) kd ar ns (cs ++ [c]))
      rw [b.rd]
      by_cases h2 : tkI u 1 ⟨#[97, 110, 100]⟩
      · rw [decide_eq_true (tkX h2), if_pos (tkX h2), if_pos h2, b.w]
        exact ih k (n1 + 1) r' (cs ++ [c]) b.tl (hG1.tail (by have := h2.1; omega)) (by have := hlen.1; simp only [List.length_cons] at this; omega) (by omega) (by simp; omega)
      · rw [decide_eq_false (tkN h2), if_neg (tkN h2), if_neg h2, thenP_ok]
        obtain ⟨k, rfl⟩ : ∃ m, k = m + 1 := ⟨k - 1, by omega⟩
        rw [parse_rule.l1.eq_2, if_neg (by decide)]
        exact e_is h1 hG1 hz kd ar ns _
theorem tail_is {L : List S39} {n : Nat} {ts : List S39} (h : L.drop n = ts) (hG : Good ts) (hz : L.length ≤ 100000) (kd ar : Int) (ns : List ByteArray) (k : Nat) (hk : ts.length + 10 < k) : Link L mkR (tailP kd ar ns ts) (parse_rule.g k L n kd ar ns) := by
  obtain ⟨t, r, rfl⟩ := hG.ne
  have a := at_p h hz
  unfold tailP parse_rule.g
  simp only [whenP]
  rw [if_pos a.lo, a.rd]
  by_cases h1 : tkI t 1 ⟨#[119, 104, 101, 110]⟩
  · rw [if_pos h1, if_pos (tkX h1), a.w]
    exact conds_is hz kd ar ns r.length k (n + 1) r [] a.tl (hG.tail (by have := h1.1; omega)) (Nat.le_refl _) (by simp only [List.length_cons] at hk; omega) (by decide)
  · rw [if_neg h1, if_neg (tkN h1), thenP_ok]
    exact e_is h hG hz kd ar ns []
theorem names_is {L : List S39} (hz : L.length ≤ 100000) (kd ar : Int) (f : Nat) : ∀ (k n : Nat) (ts : List S39) (ns : List ByteArray), L.drop n = ts → Good ts → ts.length ≤ f → f + 12 < k → ns.length ≤ 16 →
    Link L mkR (thenP (namesP ns ts) fun y => tailP kd ar y.1 y.2) (parse_rule.l0 k L true n kd ar ns) := by
  induction f with
  | zero =>
    intro k n ts ns h hG hl
    obtain ⟨t, r, rfl⟩ := hG.ne
    simp at hl
  | succ f ih =>
    intro k n ts ns h hG hl hk hns
    obtain ⟨k, rfl⟩ : ∃ m, k = m + 1 := ⟨k - 1, by omega⟩
    obtain ⟨t, r, rfl⟩ := hG.ne
    have a := at_p h hz
    rw [parse_rule.l0.eq_2, if_pos rfl, if_pos a.lo, a.rd]
    by_cases h1 : t.f0 = 1
    · have hG1 := hG.tail (by omega)
      obtain ⟨u, r', rfl⟩ := hG1.ne
      have b := at_p a.tl hz
      simp only [namesP]
      rw [if_pos h1, if_pos h1]
      by_cases h2 : ns.length = 16
      · rw [if_pos h2, if_pos h2]; rfl
      · rw [if_neg h2, if_neg h2, a.w, if_pos (show ns.length < 1000 ∧ _ from ⟨by omega, b.lo⟩), b.rd]
        by_cases h3 : tkI u 3 ⟨#[44]⟩
        · rw [decide_eq_true (tkX h3), if_pos (tkX h3), if_pos h3, b.w]
          exact ih k (n + 1 + 1) r' (ns ++ [t.f2]) b.tl (hG1.tail (by have := h3.1; omega)) (by simp only [List.length_cons] at hl; omega) (by omega) (by simp; omega)
        · rw [decide_eq_false (tkN h3), if_neg (tkN h3), if_neg h3, thenP_ok]
          obtain ⟨k, rfl⟩ : ∃ m, k = m + 1 := ⟨k - 1, by omega⟩
          rw [parse_rule.l0.eq_2, if_neg (by decide)]
          exact tail_is a.tl hG1 hz kd ar _ k (by simp only [List.length_cons] at hl ⊢; omega)
    · rw [if_neg h1]
      cases r with
      | nil => simp only [namesP]; rw [if_neg h1]; rfl
      | cons u r => simp only [namesP]; rw [if_neg h1]; rfl
theorem act_len {room : Bool} {ts : List S39} {x : Int × Int} {r : List S39} (h : actP room ts = .ok (x, r)) : r.length < ts.length := by
  cases ts with
  | nil => cases h
  | cons t ts =>
    simp only [actP] at h
    split at h
    · cases h
    · split at h
      · cases h
      · split at h
        · cases h; simp only [List.length_cons]; omega
        · cases ts with
          | nil => cases h
          | cons u ts =>
            simp only at h
            split at h
            · cases h
            · split at h
              · cases h; simp only [List.length_cons]; omega
              · cases h
theorem rule_is {L : List S39} {n : Nat} {ts : List S39} (h : L.drop n = ts) (hG : Good ts) (hz : L.length ≤ 100000) (room : Bool) (k : Nat) (hk : ts.length + 12 < k) : Link L mkR (ruleP room ts) (parse_rule.f k L n room) := by
  unfold ruleP parse_rule.f
  have ha := act_is h hG hz room
  cases hp : actP room ts with
  | bad e q =>
    rw [hp] at ha
    rw [show parse_act.f L n room = _ from ha, Option.bind_some]
    rfl
  | ok x =>
    obtain ⟨⟨kd, ar⟩, r⟩ := x
    rw [hp] at ha
    obtain ⟨n1, e1, h1, hG1⟩ := ha
    rw [e1, Option.bind_some, thenP_ok]
    exact names_is hz kd ar r.length k n1 r [] h1 hG1 (Nat.le_refl _) (by have := act_len hp; omega) (by decide)
theorem conds_len (f : Nat) : ∀ {cs ts cs' r}, condsP f cs ts = .ok (cs', r) → r.length < ts.length := by
  induction f with
  | zero => intro cs ts cs' r h; cases h
  | succ f ih =>
    intro cs ts cs' r h
    simp only [condsP] at h
    cases hp : condP (decide ((cs.length : Int) < 8)) ts with
    | bad e q => rw [hp] at h; cases h
    | ok x =>
      obtain ⟨c, r1⟩ := x
      have hl := (cond_len hp).1
      rw [hp, thenP_ok] at h
      cases r1 with
      | nil => cases h
      | cons u r1 =>
        simp only at h
        by_cases h2 : tkI u 1 ⟨#[97, 110, 100]⟩
        · rw [if_pos h2] at h
          have := ih h
          simp only [List.length_cons] at hl; omega
        · rw [if_neg h2] at h
          cases h
          exact hl
theorem semi_len {ts r : List S39} (h : semiP ts = .ok r) : r.length < ts.length := by
  cases ts with
  | nil => cases h
  | cons t ts =>
    simp only [semiP] at h
    split at h
    · cases h; simp
    · cases h
theorem tail_len {kd ar : Int} {ns : List ByteArray} {ts : List S39} {x : S44} {r : List S39} (h : tailP kd ar ns ts = .ok (x, r)) : r.length < ts.length := by
  unfold tailP at h
  cases ts with
  | nil => cases h
  | cons t ts =>
    simp only [whenP] at h
    by_cases h1 : tkI t 1 ⟨#[119, 104, 101, 110]⟩
    · rw [if_pos h1] at h
      cases hp : condsP ts.length [] ts with
      | bad e q => rw [hp] at h; cases h
      | ok y =>
        obtain ⟨cs, r1⟩ := y
        rw [hp, thenP_ok] at h
        have hl := conds_len _ hp
        cases hq : semiP r1 with
        | bad e q => simp only [hq] at h; cases h
        | ok z =>
          simp only [hq, thenP_ok] at h
          cases h
          have := semi_len hq
          simp only [List.length_cons]; omega
    · rw [if_neg h1, thenP_ok] at h
      cases hq : semiP (t :: ts) with
      | bad e q => simp only [hq] at h; cases h
      | ok z =>
        simp only [hq, thenP_ok] at h
        cases h
        exact semi_len hq
theorem names_len (ts : List S39) : ∀ {ns ns' r}, namesP ns ts = .ok (ns', r) → r.length < ts.length := by
  intro ns
  induction ns, ts using namesP.induct with
  | case1 ns => intro _ _ h; cases h
  | case2 ns t h1 h2 => intro _ _ h; simp only [namesP, h1, h2, if_true] at h; cases h
  | case3 ns t h1 h2 => intro _ _ h; simp only [namesP, h1, h2, if_true, if_false] at h; cases h
  | case4 ns t h1 => intro _ _ h; simp only [namesP, h1, if_false] at h; cases h
  | case5 ns t u r h1 h2 => intro _ _ h; simp only [namesP, h1, h2, if_true] at h; cases h
  | case6 ns t u r h1 h2 h3 ih => intro _ _ h; simp only [namesP, h1, h2, h3, if_true, if_false] at h; have := ih h; simp only [List.length_cons]; omega
  | case7 ns t u r h1 h2 h3 => intro _ _ h; simp only [namesP, h1, h2, h3, if_true, if_false] at h; cases h; simp only [List.length_cons]; omega
  | case8 ns t u r h1 => intro _ _ h; simp only [namesP, h1, if_false] at h; cases h
theorem rule_len {room : Bool} {ts : List S39} {x : S44} {r : List S39} (h : ruleP room ts = .ok (x, r)) : r.length < ts.length := by
  unfold ruleP at h
  cases hp : actP room ts with
  | bad e q => rw [hp] at h; cases h
  | ok y =>
    obtain ⟨a, r1⟩ := y
    rw [hp, thenP_ok] at h
    have h1 := act_len hp
    cases hq : namesP [] r1 with
    | bad e q => simp only [hq] at h; cases h
    | ok z =>
      obtain ⟨ns, r2⟩ := z
      simp only [hq, thenP_ok] at h
      have h2 := names_len _ hq
      have h3 := tail_len h
      omega
theorem rules_is {L : List S39} (hz : L.length ≤ 100000) (f : Nat) : ∀ (k n : Nat) (ts : List S39) (rs : List S44), L.drop n = ts → Good ts → ts.length < f → f + 14 < k → rs.length + ts.length ≤ f + 64 → rs.length ≤ 64 →
    parse_Parse.l0 k L n rs = some (rulesP f rs ts) := by
  induction f with
  | zero => intro k n ts rs h hG hl; omega
  | succ f ih =>
    intro k n ts rs h hG hl hk _ hrs
    obtain ⟨k, rfl⟩ : ∃ m, k = m + 1 := ⟨k - 1, by omega⟩
    obtain ⟨t, r, rfl⟩ := hG.ne
    have a := at_p h hz
    rw [parse_Parse.l0.eq_2, if_pos a.lo, a.rd]
    simp only [rulesP]
    by_cases h1 : t.f0 = 4
    · rw [if_pos h1, if_pos h1]
    · rw [if_neg h1, if_neg h1, if_pos (by omega)]
      have hr := rule_is h hG hz (decide ((rs.length : Int) < 64)) k (by omega)
      cases hp : ruleP (decide ((rs.length : Int) < 64)) (t :: r) with
      | bad e q =>
        rw [hp] at hr
        rw [show parse_rule.f k L n _ = _ from hr, Option.bind_some]
        rfl
      | ok y =>
        obtain ⟨x, r1⟩ := y
        rw [hp] at hr
        obtain ⟨n1, e1, h2, hG2⟩ := hr
        rw [e1, Option.bind_some, thenP_ok]
        have hl2 := rule_len hp
        have hlt : rs.length < 64 := by
          by_cases hlt : (rs.length : Int) < 64
          · omega
          · rw [decide_eq_false hlt] at hp
            unfold ruleP at hp
            simp only [actP] at hp
            split at hp
            · cases hp
            · rw [if_pos trivial] at hp; cases hp
        exact ih k n1 r1 (rs ++ [x]) h2 hG2 (by simp only [List.length_cons] at hl hl2 ⊢; omega) (by omega) (by simp; simp only [List.length_cons] at hl hl2; omega) (by simp; omega)
end Go.Proofs.Ytfahchgglapglaa.Pure
