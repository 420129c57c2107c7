/- Layer 10 (parse), plain: what was read hangs on the tokens that were read alone. -/
import Derived.Test.YtfahchgglapglaaPjMx0
import Derived.Test.YtfahchgglapglaaPjMx5
import Derived.Test.YtfahchgglapglaaPjMx10
import Derived.Test.YtfahchgglapglaaPjAid
import Derived.Test.YtfahchgglapglaaPjK09
import Derived.Test.YtfahchgglapglaaPjK10
namespace Go.Proofs.Ytfahchgglapglaa.Pure
open Go Go.RowKit Go.Proofs.Ytfahchgglapglaa.M Go.Proofs.Ytfahchgglapglaa.Aid Go.Proofs.YtfahchgglapglaaW.PrintWords Go.Proofs.YtfahchgglapglaaW.PrintLast Go.Proofs.YtfahchgglapglaaW.PrintMore
set_option linter.unusedVariables false
set_option linter.unusedSimpArgs false
-- NEEDS parse_Parse.f parse_kind.f lex_All.f
-- IMPORT K09
-- IMPORT K10
/-- Read without a look ahead. -/
def Loc {α : Type} (F : List S39 → PRes (α × List S39)) : Prop := ∀ ts x r, F ts = .ok (x, r) → ∃ c, c ≠ [] ∧ ts = c ++ r ∧ ∀ r2, F (c ++ r2) = .ok (x, r2)
theorem must_loc (k : Int) : Loc (mustP k) := by
  intro ts x r h
  cases ts with
  | nil => cases h
  | cons t ts =>
    simp only [mustP] at h
    by_cases h1 : t.f0 = k
    · rw [if_pos h1] at h; cases h
      exact ⟨[_], by simp, rfl, fun r2 => by simp only [List.cons_append, List.nil_append, mustP]; rw [if_pos h1]⟩
    · rw [if_neg h1] at h; cases h
theorem act_loc (room : Bool) : Loc (actP room) := by
  intro ts x r h
  cases ts with
  | nil => cases h
  | cons t ts =>
    simp only [actP] at h
    by_cases h1 : t.f0 ≠ 1 ∨ kindP t.f2 = 0
    · rw [if_pos h1] at h; cases h
    · rw [if_neg h1] at h
      by_cases h2 : room = false
      · rw [if_pos h2] at h; cases h
      · rw [if_neg h2] at h
        by_cases h3 : kindP t.f2 ≠ 3 ∧ kindP t.f2 ≠ 4 ∧ kindP t.f2 ≠ 6
        · rw [if_pos h3] at h; cases h
          exact ⟨[t], by simp, rfl, fun r2 => by simp only [List.cons_append, List.nil_append, actP]; rw [if_neg h1, if_neg h2, if_pos h3]⟩
        · rw [if_neg h3] at h
          cases ts with
          | nil => cases h
          | cons u ts =>
            simp only at h
            by_cases h4 : u.f0 = 2 ∧ 65535 < u.f3
            · rw [if_pos h4] at h; cases h
            · rw [if_neg h4] at h
              by_cases h5 : u.f0 = 2
              · rw [if_pos h5] at h; cases h
                refine ⟨[t, u], by simp, rfl, fun r2 => ?_⟩
                simp only [List.cons_append, List.nil_append, actP]
                rw [if_neg h1, if_neg h2, if_neg h3, if_neg h4, if_pos h5]
              · rw [if_neg h5] at h; cases h
theorem op_loc : Loc opP := by
  intro ts x r h
  cases ts with
  | nil => cases h
  | cons t ts =>
    simp only [opP] at h
    by_cases h1 : opN t = 0
    · rw [if_pos h1] at h; cases h
    · rw [if_neg h1] at h; cases h
      exact ⟨[t], by simp, rfl, fun r2 => by simp only [List.cons_append, List.nil_append, opP]; rw [if_neg h1]⟩
theorem rest_loc (a m : Int) : Loc (fun ts => restP ts a m) := by
  intro ts x r h
  simp only [restP] at h
  cases hp : opP ts with
  | bad e q => rw [hp] at h; cases h
  | ok y =>
    obtain ⟨o, r1⟩ := y
    rw [hp, thenP_ok] at h
    simp only at h
    cases hq : mustP 2 r1 with
    | bad e q => rw [hq] at h; cases h
    | ok z =>
      obtain ⟨t, r2⟩ := z
      rw [hq, thenP_ok] at h
      cases h
      obtain ⟨c1, n1, e1, f1⟩ := op_loc _ _ _ hp
      obtain ⟨c2, n2, e2, f2⟩ := must_loc 2 _ _ _ hq
      refine ⟨c1 ++ c2, by simp [n1], by rw [e1, e2, List.append_assoc], fun r3 => ?_⟩
      simp only [restP]
      rw [List.append_assoc, f1, thenP_ok]
      simp only
      rw [f2, thenP_ok]
theorem cond_loc (room : Bool) : Loc (condP room) := by
  intro ts x r h
  cases ts with
  | nil => cases h
  | cons t ts =>
    simp only [condP] at h
    by_cases h1 : argP t
    · rw [if_pos h1] at h
      by_cases h2 : room = false
      · rw [if_pos h2] at h; cases h
      · rw [if_neg h2] at h
        cases ts with
        | nil => cases h
        | cons u ts =>
          simp only at h
          by_cases h3 : tkI u 3 ⟨#[38]⟩
          · rw [if_pos h3] at h
            cases hq : mustP 2 ts with
            | bad e q => rw [hq] at h; cases h
            | ok z =>
              obtain ⟨v, r1⟩ := z
              rw [hq, thenP_ok] at h
              obtain ⟨c1, n1, e1, f1⟩ := must_loc 2 _ _ _ hq
              obtain ⟨c2, n2, e2, f2⟩ := rest_loc _ _ _ _ _ h
              refine ⟨t :: u :: (c1 ++ c2), by simp, by simp only at e2; rw [e1, e2, ← List.append_assoc]; rfl, fun r2 => ?_⟩
              simp only [List.cons_append, condP]
              rw [if_pos h1, if_neg h2, if_pos h3, List.append_assoc, f1, thenP_ok]
              exact f2 r2
          · rw [if_neg h3] at h
            obtain ⟨c2, n2, e2, f2⟩ := rest_loc _ _ _ _ _ h
            cases c2 with
            | nil => exact absurd rfl n2
            | cons u' c2 =>
              simp only [List.cons_append, List.cons.injEq] at e2
              obtain ⟨rfl, e2⟩ := e2
              refine ⟨t :: u :: c2, by simp, by rw [e2]; rfl, fun r2 => ?_⟩
              simp only [List.cons_append, condP]
              rw [if_pos h1, if_neg h2, if_neg h3]
              exact f2 r2
    · rw [if_neg h1] at h; cases h
abbrev comma (u : S39) : Prop := tkI u 3 ⟨#[44]⟩
abbrev whenT (u : S39) : Prop := tkI u 1 ⟨#[119, 104, 101, 110]⟩
abbrev andT (u : S39) : Prop := tkI u 1 ⟨#[97, 110, 100]⟩
abbrev semiT (u : S39) : Prop := tkI u 3 ⟨#[59]⟩
theorem names_loc {ns : List ByteArray} {ts : List S39} {ns' : List ByteArray} {r : List S39} (h : namesP ns ts = .ok (ns', r)) : ∃ c u r', r = u :: r' ∧ c ≠ [] ∧ ts = c ++ r ∧ ¬ comma u ∧ ∀ u' r2, ¬ comma u' → namesP ns (c ++ u' :: r2) = .ok (ns', u' :: r2) := by
  induction ns, ts using namesP.induct with
  | case1 ns => cases h
  | case2 ns t h1 h2 => simp only [namesP, h1, h2, if_true] at h; cases h
  | case3 ns t h1 h2 => simp only [namesP, h1, h2, if_true, if_false] at h; cases h
  | case4 ns t h1 => simp only [namesP, h1, if_false] at h; cases h
  | case5 ns t u r h1 h2 => simp only [namesP, h1, h2, if_true] at h; cases h
  | case6 ns t u r1 h1 h2 h3 ih =>
    simp only [namesP, h1, h2, h3, if_true, if_false] at h
    obtain ⟨c, v, r', e1, n1, e2, e3, e4⟩ := ih h
    refine ⟨t :: u :: c, v, r', e1, by simp, by rw [e2]; rfl, e3, fun u' r2 hu => ?_⟩
    have := e4 u' r2 hu
    simp only [List.cons_append, namesP, h1, h2, h3, if_true, if_false]
    exact this
  | case7 ns t u r1 h1 h2 h3 =>
    simp only [namesP, h1, h2, h3, if_true, if_false] at h
    cases h
    refine ⟨[t], u, r1, rfl, by simp, rfl, h3, fun u' r2 hu => ?_⟩
    simp only [List.cons_append, List.nil_append, namesP, h1, h2, hu, if_true, if_false]
  | case8 ns t u r h1 => simp only [namesP, h1, if_false] at h; cases h
theorem conds_loc (f : Nat) : ∀ {cs ts cs' r}, condsP f cs ts = .ok (cs', r) → ∃ c u r', r = u :: r' ∧ c ≠ [] ∧ ts = c ++ r ∧ ¬ andT u ∧ ∀ f' u' r2, c.length ≤ f' → ¬ andT u' → condsP f' cs (c ++ u' :: r2) = .ok (cs', u' :: r2) := by
  induction f with
  | zero => intro cs ts cs' r h; cases h
  | succ f ih =>
    intro cs ts cs' r h
    simp only [condsP] at h
    cases hp : condP (decide ((cs.length : Int) < 8)) ts with
    | bad e q => rw [hp] at h; cases h
    | ok x =>
      obtain ⟨cd, r1⟩ := x
      obtain ⟨c1, n1, e1, f1⟩ := cond_loc _ _ _ _ hp
      rw [hp, thenP_ok] at h
      cases r1 with
      | nil => cases h
      | cons u r1 =>
        simp only at h
        have hc1 : 1 ≤ c1.length := by cases c1 with | nil => exact absurd rfl n1 | cons _ _ => simp
        by_cases h2 : andT u
        · rw [if_pos h2] at h
          obtain ⟨c2, v, r', g1, g2, g3, g4, g5⟩ := ih h
          refine ⟨c1 ++ u :: c2, v, r', g1, by simp, by rw [e1, g3]; simp, g4, fun f' u' r2 hf hu => ?_⟩
          obtain ⟨f', rfl⟩ : ∃ m, f' = m + 1 := ⟨f' - 1, by simp at hf; omega⟩
          simp only [condsP]
          rw [List.append_assoc, f1, thenP_ok]
          show (if andT u then condsP f' (cs ++ [cd]) (c2 ++ u' :: r2) else _) = _
          rw [if_pos h2]
          exact g5 f' u' r2 (by simp at hf; omega) hu
        · rw [if_neg h2] at h
          cases h
          refine ⟨c1, u, r1, rfl, n1, e1, h2, fun f' u' r2 hf hu => ?_⟩
          obtain ⟨f', rfl⟩ : ∃ m, f' = m + 1 := ⟨f' - 1, by omega⟩
          simp only [condsP]
          rw [f1, thenP_ok]
          show (if andT u' then _ else _) = _
          rw [if_neg hu]
theorem when_loc {ts : List S39} {cs : List S46} {r : List S39} (h : whenP ts = .ok (cs, r)) : ∃ c u r', r = u :: r' ∧ ts = c ++ r ∧ ∀ u' r2, ¬ whenT u' → ¬ andT u' → whenP (c ++ u' :: r2) = .ok (cs, u' :: r2) := by
  cases ts with
  | nil => cases h
  | cons t ts =>
    simp only [whenP] at h
    by_cases h1 : whenT t
    · rw [if_pos h1] at h
      obtain ⟨c, u, r', e1, e2, e3, e4, e5⟩ := conds_loc _ h
      refine ⟨t :: c, u, r', e1, by rw [e3]; rfl, fun u' r2 _ hu => ?_⟩
      simp only [List.cons_append, whenP]
      rw [if_pos h1]
      exact e5 _ u' r2 (by simp) hu
    · rw [if_neg h1] at h
      cases h
      refine ⟨[], t, ts, rfl, rfl, fun u' r2 hw _ => ?_⟩
      simp only [List.nil_append, whenP]
      rw [if_neg hw]
/-- Read to a ; and with it: what stands behind does not matter; with another token in the ;'s place it is wrong there. -/
def LocS {α : Type} (F : List S39 → PRes (α × List S39)) : Prop := ∀ ts x r, F ts = .ok (x, r) → ∃ c s, semiT s ∧ ts = c ++ s :: r ∧ (∀ r2, F (c ++ s :: r2) = .ok (x, r2)) ∧ ∀ e r2, e.f0 = 4 → F (c ++ e :: r2) = .bad 7 e.f1
theorem end_not {e : S39} (h : e.f0 = 4) : ¬ comma e ∧ ¬ whenT e ∧ ¬ andT e ∧ ¬ semiT e := ⟨fun x => by have := x.1; omega, fun x => by have := x.1; omega, fun x => by have := x.1; omega, fun x => by have := x.1; omega⟩
theorem semi_not {e : S39} (h : semiT e) : ¬ comma e ∧ ¬ whenT e ∧ ¬ andT e := ⟨fun x => by have := x.2.symm.trans h.2; exact absurd this (by decide), fun x => by have := x.1; have := h.1; omega, fun x => by have := x.1; have := h.1; omega⟩
theorem tail_loc (kd ar : Int) (ns : List ByteArray) : LocS (tailP kd ar ns) := by
  intro ts x r h
  unfold tailP at h
  cases hw : whenP ts with
  | bad e q => rw [hw] at h; cases h
  | ok y =>
    obtain ⟨cs, r1⟩ := y
    rw [hw, thenP_ok] at h
    obtain ⟨c, u, r', rfl, e2, e3⟩ := when_loc hw
    simp only [semiP] at h
    by_cases h1 : semiT u
    · rw [if_pos h1, thenP_ok] at h
      cases h
      have hn := semi_not h1
      refine ⟨c, u, h1, e2, fun r2 => ?_, fun e r2 he => ?_⟩
      · unfold tailP
        rw [e3 u r2 hn.2.1 hn.2.2, thenP_ok]
        simp only [semiP]
        rw [if_pos h1, thenP_ok]
      · unfold tailP
        have hm := end_not he
        rw [e3 e r2 hm.2.1 hm.2.2.1, thenP_ok]
        simp only [semiP]
        rw [if_neg hm.2.2.2, thenP_bad]
    · rw [if_neg h1] at h; cases h
theorem rule_loc (room : Bool) : LocS (ruleP room) := by
  intro ts x r h
  unfold ruleP at h
  cases hp : actP room ts with
  | bad e q => rw [hp] at h; cases h
  | ok y =>
    obtain ⟨a, r1⟩ := y
    rw [hp, thenP_ok] at h
    obtain ⟨c1, n1, e1, f1⟩ := act_loc room _ _ _ hp
    cases hq : namesP [] r1 with
    | bad e q => simp only [hq] at h; cases h
    | ok z =>
      obtain ⟨ns, r2⟩ := z
      simp only [hq, thenP_ok] at h
      obtain ⟨c2, u, r', rfl, n2, e2, e3, e4⟩ := names_loc hq
      obtain ⟨c3, s, hs, e5, e6, e7⟩ := tail_loc _ _ _ _ _ _ h
      refine ⟨c1 ++ (c2 ++ c3), s, hs, by rw [e1, e2, e5]; simp, ?_, ?_⟩
      · intro r3
        unfold ruleP
        rw [List.append_assoc, f1, thenP_ok, List.append_assoc]
        have key : namesP [] (c2 ++ (c3 ++ s :: r3)) = .ok (ns, c3 ++ s :: r3) := by
          cases c3 with
          | nil => simp only [List.nil_append, List.cons.injEq] at e5; exact e4 s r3 (semi_not hs).1
          | cons v c3 => simp only [List.cons_append, List.cons.injEq] at e5; exact e4 v _ (e5.1 ▸ e3)
        simp only [key, thenP_ok]
        exact e6 r3
      · intro e r3 he
        unfold ruleP
        rw [List.append_assoc, f1, thenP_ok, List.append_assoc]
        have key : namesP [] (c2 ++ (c3 ++ e :: r3)) = .ok (ns, c3 ++ e :: r3) := by
          cases c3 with
          | nil => exact e4 e r3 (end_not he).1
          | cons v c3 => simp only [List.cons_append, List.cons.injEq] at e5; exact e4 v _ (e5.1 ▸ e3)
        simp only [key, thenP_ok]
        exact e7 e r3 he
/-- Rules, one behind the other. -/
inductive Run : List S39 → List S44 → List S39 → Prop
  | nil (ts) : Run ts [] ts
  | cons {t ts x r xs r'} (h : t.f0 ≠ 4) (hr : ruleP true (t :: ts) = .ok (x, r)) (k : Run r xs r') : Run (t :: ts) (x :: xs) r'
theorem rule_head {room : Bool} {t : S39} {ts : List S39} {x : S44 × List S39} (h : ruleP room (t :: ts) = .ok x) : t.f0 = 1 ∧ kindP t.f2 ≠ 0 := by
  unfold ruleP at h
  simp only [actP] at h
  by_cases h1 : t.f0 ≠ 1 ∨ kindP t.f2 = 0
  · rw [if_pos h1] at h; cases h
  · exact ⟨Decidable.byContradiction fun e => h1 (.inl e), fun e => h1 (.inr e)⟩
/-- What was read is a run. -/
theorem rules_run (f : Nat) : ∀ {rs ts out}, rulesP f rs ts = .ok out → ∃ xs e r, Run ts xs (e :: r) ∧ e.f0 = 4 ∧ out = rs ++ xs := by
  induction f with
  | zero => intro rs ts out h; cases h
  | succ f ih =>
    intro rs ts out h
    cases ts with
    | nil => cases h
    | cons t r =>
      simp only [rulesP] at h
      by_cases h4 : t.f0 = 4
      · rw [if_pos h4] at h; cases h; exact ⟨[], t, r, .nil _, h4, by simp⟩
      · rw [if_neg h4] at h
        cases hp : ruleP (decide ((rs.length : Int) < 64)) (t :: r) with
        | bad e q => rw [hp] at h; cases h
        | ok y =>
          obtain ⟨x, r1⟩ := y
          rw [hp, thenP_ok] at h
          obtain ⟨xs, e, r2, h1, h2, h3⟩ := ih h
          have hroom : decide ((rs.length : Int) < 64) = true := by
            cases hd : decide ((rs.length : Int) < 64) with
            | true => rfl
            | false => rw [hd] at hp; exact (rule_room hp).elim
          rw [hroom] at hp
          exact ⟨x :: xs, e, r2, .cons h4 hp h1, h2, by rw [h3]; simp⟩
/-- A run is read, if there is room. -/
theorem run_rules {ts : List S39} {xs : List S44} {r0 : List S39} (h : Run ts xs r0) : ∀ (f : Nat) (rs : List S44) (e : S39) (r : List S39), r0 = e :: r → e.f0 = 4 → ts.length < f → rs.length + xs.length ≤ 64 → rulesP f rs ts = .ok (rs ++ xs) := by
  induction h with
  | nil ts =>
    rintro f rs e r rfl he hf _
    obtain ⟨f, rfl⟩ : ∃ m, f = m + 1 := ⟨f - 1, by omega⟩
    simp only [rulesP]
    rw [if_pos he, List.append_nil]
  | @cons t ts x r1 xs r' h4 hr k ih =>
    intro f rs e r he h0 hf hl
    obtain ⟨f, rfl⟩ : ∃ m, f = m + 1 := ⟨f - 1, by omega⟩
    have hlen := rule_len hr
    simp only [List.length_cons] at hl hf hlen
    simp only [rulesP]
    rw [if_neg h4, decide_eq_true (show (rs.length : Int) < 64 by omega), hr, thenP_ok, ih f (rs ++ [x]) e r he h0 (by omega) (by simp; omega)]
    simp
/-- Too long a run is wrong where there is no room. -/
theorem run_over {ts : List S39} {xs : List S44} {r0 : List S39} (h : Run ts xs r0) : ∀ (f : Nat) (rs : List S44), ts.length < f → rs.length ≤ 64 → 64 < rs.length + xs.length → ∃ q, rulesP f rs ts = .bad 4 q := by
  induction h with
  | nil ts => intro f rs _ _ h; simp at h; omega
  | @cons t ts x r1 xs r' h4 hr k ih =>
    intro f rs hf hl ho
    obtain ⟨f, rfl⟩ : ∃ m, f = m + 1 := ⟨f - 1, by omega⟩
    have hlen := rule_len hr
    simp only [List.length_cons] at ho hf hlen
    simp only [rulesP]
    rw [if_neg h4]
    by_cases hlt : (rs.length : Int) < 64
    · rw [decide_eq_true hlt, hr, thenP_ok]
      exact ih f (rs ++ [x]) (by omega) (by simp; omega) (by simp; omega)
    · rw [decide_eq_false hlt]
      have hh := rule_head hr
      refine ⟨t.f1, ?_⟩
      unfold ruleP
      simp only [actP]
      rw [if_neg (by rw [not_or]; exact ⟨by omega, hh.2⟩), if_pos trivial]
      rfl
/-- A run hangs on what it read alone. -/
theorem run_loc {ts : List S39} {xs : List S44} {r : List S39} (h : Run ts xs r) : ∃ c, ts = c ++ r ∧ (∀ r2, Run (c ++ r2) xs r2) ∧ (xs ≠ [] → ∃ c0 s, semiT s ∧ c = c0 ++ [s]) := by
  induction h with
  | nil ts => exact ⟨[], rfl, fun r2 => .nil _, fun h => absurd rfl h⟩
  | @cons t ts x r1 xs r' h4 hr k ih =>
    obtain ⟨c2, e1, e2, e3⟩ := ih
    obtain ⟨c1, s, hs, g1, g2, g3⟩ := rule_loc true _ _ _ hr
    refine ⟨c1 ++ s :: c2, by rw [g1, e1]; simp, fun r2 => ?_, fun _ => ?_⟩
    · have hc1 : ∃ c1', c1 = t :: c1' := by
        cases c1 with
        | nil =>
          simp only [List.nil_append, List.cons.injEq] at g1
          have := (rule_head hr).1
          have := hs.1
          rw [← g1.1] at this
          omega
        | cons v c1 =>
          simp only [List.cons_append, List.cons.injEq] at g1
          exact ⟨c1, by rw [g1.1]⟩
      obtain ⟨c1', rfl⟩ := hc1
      have := g2 (c2 ++ r2)
      simp only [List.cons_append, List.append_assoc] at this ⊢
      exact .cons h4 this (e2 r2)
    · cases xs with
      | nil =>
        cases k
        have : c2 = [] := by
          have := congrArg List.length e1
          simp only [List.length_append] at this
          exact List.eq_nil_of_length_eq_zero (by omega)
        subst this
        exact ⟨c1, s, hs, by simp⟩
      | cons y ys =>
        obtain ⟨c0, s2, h1, h2⟩ := e3 (by simp)
        exact ⟨c1 ++ s :: c0, s2, h1, by rw [h2]; simp⟩
/-- What a text's tokens are, if they are rules. -/
structure Parsed (ts : List S39) (kd ar : Int) (xs : List S44) : Prop where
  ex : ∃ d ca s cr e, ts = d :: (ca ++ s :: (cr ++ [e])) ∧ tkI d 1 ⟨#[100, 101, 102, 97, 117, 108, 116]⟩ ∧ semiT s ∧ e.f0 = 4 ∧ (∀ r2, actP true (ca ++ r2) = .ok ((kd, ar), r2)) ∧ (∀ r2, Run (cr ++ r2) xs r2) ∧ (xs ≠ [] → ∃ c0 s, semiT s ∧ cr = c0 ++ [s])
  le : xs.length ≤ 64
theorem good_end : ∀ {c : List S39} {e : S39} {r : List S39}, Good (c ++ e :: r) → e.f0 = 4 → r = []
  | [], e, r, h, he => by
    rcases h with ⟨h, _⟩ | ⟨h, _⟩
    · exact h
    · exact absurd he h
  | t :: c, e, r, h, he => by
    rcases h with ⟨h, _⟩ | ⟨_, h⟩
    · simp at h
    · exact good_end h he
theorem parsed_of {ts : List S39} (hG : Good ts) {x : Int × Int × List S44} (h : parseP ts = .ok x) : Parsed ts x.1 x.2.1 x.2.2 := by
  have hle := (parse_ok h).1
  refine ⟨?_, hle⟩
  cases ts with
  | nil => cases h
  | cons d ts =>
    simp only [parseP] at h
    by_cases hd : tkI d 1 ⟨#[100, 101, 102, 97, 117, 108, 116]⟩
    · rw [if_pos hd] at h
      cases hp : actP true ts with
      | bad e q => rw [hp] at h; cases h
      | ok a =>
        obtain ⟨⟨kd, ar⟩, r1⟩ := a
        rw [hp, thenP_ok] at h
        obtain ⟨ca, n1, e1, f1⟩ := act_loc true _ _ _ hp
        cases r1 with
        | nil => cases h
        | cons s r1 =>
          simp only [semiP] at h
          by_cases hs : semiT s
          · rw [if_pos hs, thenP_ok] at h
            cases hr : rulesP (r1.length + 1) [] r1 with
            | bad e q => rw [hr] at h; cases h
            | ok rs =>
              rw [hr, thenP_ok] at h
              cases h
              obtain ⟨xs, e, r2, h1, h2, h3⟩ := rules_run _ hr
              rw [List.nil_append] at h3
              subst h3
              obtain ⟨cr, g1, g2, g3⟩ := run_loc h1
              have hr2 : r2 = [] := by
                rw [e1, g1] at hG
                exact good_end (c := d :: (ca ++ s :: cr)) (by simpa using hG) h2
              subst hr2
              exact ⟨d, ca, s, cr, e, by rw [e1, g1], hd, hs, h2, f1, g2, g3⟩
          · rw [if_neg hs] at h; cases h
    · rw [if_neg hd] at h; cases h
end Go.Proofs.Ytfahchgglapglaa.Pure
