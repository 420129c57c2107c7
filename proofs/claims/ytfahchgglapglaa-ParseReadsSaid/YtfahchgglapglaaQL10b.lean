/- Layer 10 (parse), plain: conditions, names, rules of tokens. -/
import Derived.Test.YtfahchgglapglaaQMx0
import Derived.Test.YtfahchgglapglaaQMx5
import Derived.Test.YtfahchgglapglaaQMx10
import Derived.Test.YtfahchgglapglaaQAid
import Derived.Test.YtfahchgglapglaaQM09
import Derived.Test.YtfahchgglapglaaQM09b
import Derived.Test.YtfahchgglapglaaQM09d
import Derived.Test.YtfahchgglapglaaQM09e
import Derived.Test.YtfahchgglapglaaQL10
namespace Go.Proofs.Ytfahchgglapglaa.Pure
open Go Go.RowKit Go.Proofs.Ytfahchgglapglaa.M Go.Proofs.Ytfahchgglapglaa.Aid Go.Proofs.YtfahchgglapglaaW.PrintWords Go.Proofs.YtfahchgglapglaaW.PrintLast Go.Proofs.YtfahchgglapglaaW.PrintMore
set_option linter.unusedVariables false
set_option linter.unusedSimpArgs false
-- NEEDS parse_Parse.f parse_kind.f lex_All.f
-- IMPORT M09
-- IMPORT M09b
-- IMPORT M09d
-- IMPORT M09e
-- IMPORT L10
def argP (t : S39) : Prop := t.f0 = 1 ∧ t.f2.size = 4 ∧ t.f2.extract 0 3 = ⟨#[97, 114, 103]⟩ ∧ 48 ≤ bt t.f2 3 ∧ bt t.f2 3 ≤ 53
instance (t : S39) : Decidable (argP t) := by unfold argP; exact inferInstance
def restP (ts : List S39) (a m : Int) : PRes (S46 × List S39) := thenP (opP ts) fun x => thenP (mustP 2 x.2) fun y => .ok (⟨a, x.1, m, y.1.f3⟩, y.2)
def condP (room : Bool) : List S39 → PRes (S46 × List S39)
  | [] => .bad 7 0
  | t :: r => if argP t then if room = false then .bad 4 t.f1 else match r with
      | [] => .bad 7 0
      | u :: r' => if tkI u 3 ⟨#[38]⟩ then thenP (mustP 2 r') fun y => restP y.2 (bt t.f2 3 - 48) y.1.f3 else restP (u :: r') (bt t.f2 3 - 48) 18446744073709551615
    else .bad 7 t.f1
def mkC (c : S46) (m : Int) : Int × Int × Int × Int × Int := (c.f0, c.f1, c.f2, c.f3, m)
theorem rest_is {L : List S39} {n : Nat} {ts : List S39} (h : L.drop n = ts) (hG : Good ts) (hz : L.length ≤ 100000) (a m : Int) (k : Nat) (hk : 8 ≤ k) : Link L mkC (restP ts a m) (parse_cond.rest k L n a m) := by
  unfold restP parse_cond.rest
  have ho := op_is h hG hz k hk
  cases hp : opP ts with
  | bad e q =>
    rw [hp] at ho
    rw [show parse_op.f k L n = _ from ho, Option.bind_some]
    rfl
  | ok x =>
    obtain ⟨o, r⟩ := x
    rw [hp] at ho
    obtain ⟨n1, e1, h1, hG1⟩ := ho
    rw [e1, Option.bind_some, thenP_ok]
    have hm := must_is h1 hG1 hz 2 (by decide)
    simp only
    cases hq : mustP 2 r with
    | bad e q =>
      rw [hq] at hm
      rw [show parse_must.f L n1 2 = _ from hm, Option.bind_some]
      rfl
    | ok y =>
      obtain ⟨t, r2⟩ := y
      rw [hq] at hm
      obtain ⟨n2, e2, h2, hG2⟩ := hm
      rw [e2, Option.bind_some, thenP_ok]
      exact ⟨n2, rfl, h2, hG2⟩
theorem cond_is {L : List S39} {n : Nat} {ts : List S39} (h : L.drop n = ts) (hG : Good ts) (hz : L.length ≤ 100000) (room : Bool) (k : Nat) (hk : 8 ≤ k) : Link L mkC (condP room ts) (parse_cond.f k L n room) := by
  obtain ⟨t, r, rfl⟩ := hG.ne
  have a := at_p h hz
  unfold parse_cond.f
  simp only [condP]
  rw [if_pos a.lo, a.rd]
  by_cases h1 : argP t
  · rw [if_pos h1]
    have h1' := h1
    unfold argP at h1'
    rw [if_pos (show t.f0 = 1 ∧ t.f2.size = 4 ∧ (t.f2.extract 0 3).toList = [97, 114, 103] ∧ _ from ⟨h1'.1, h1'.2.1, (toList_is _ _).2 h1'.2.2.1, h1'.2.2.2⟩)]
    by_cases h2 : room = false
    · rw [if_pos h2, if_pos h2]; rfl
    · rw [if_neg h2, if_neg h2]
      have hG1 := hG.tail (by have := h1'.1; omega)
      obtain ⟨u, r', rfl⟩ := hG1.ne
      have b := at_p a.tl hz
      rw [a.w, if_pos b.lo, b.rd]
      by_cases h3 : tkI u 3 ⟨#[38]⟩
      · rw [if_pos (tkX h3)]
        simp only [if_pos h3]
        have hG2 := hG1.tail (by have := h3.1; omega)
        rw [b.w]
        have hm := must_is b.tl hG2 hz 2 (by decide)
        cases hq : mustP 2 r' with
        | bad e q =>
          rw [hq] at hm
          rw [show parse_must.f L _ 2 = _ from hm, Option.bind_some]
          rfl
        | ok y =>
          obtain ⟨v, r2⟩ := y
          rw [hq] at hm
          obtain ⟨n2, e2, h2, hG2⟩ := hm
          rw [e2, Option.bind_some, thenP_ok]
          exact rest_is h2 hG2 hz _ _ k hk
      · rw [if_neg (tkN h3)]
        simp only [if_neg h3]
        exact rest_is a.tl hG1 hz _ _ k hk
  · rw [if_neg h1, if_neg (fun e => h1 ⟨e.1, e.2.1, (toList_is _ _).1 e.2.2.1, e.2.2.2⟩)]
    rfl
theorem rest_len {ts : List S39} {a m : Int} {c : S46} {r : List S39} (h : restP ts a m = .ok (c, r)) : r.length < ts.length := by
  unfold restP at h
  cases ts with
  | nil => cases h
  | cons t ts =>
    simp only [opP] at h
    by_cases h1 : opN t = 0
    · rw [if_pos h1] at h; cases h
    · rw [if_neg h1, thenP_ok] at h
      cases ts with
      | nil => cases h
      | cons u ts =>
        simp only [mustP] at h
        by_cases h2 : u.f0 = 2
        · rw [if_pos h2, thenP_ok] at h
          cases h
          simp only [List.length_cons]; omega
        · rw [if_neg h2] at h; cases h
theorem cond_len {room : Bool} {ts : List S39} {c : S46} {r : List S39} (h : condP room ts = .ok (c, r)) : r.length < ts.length ∧ room = true := by
  cases ts with
  | nil => cases h
  | cons t ts =>
    simp only [condP] at h
    by_cases h1 : argP t
    · rw [if_pos h1] at h
      by_cases h2 : room = false
      · rw [if_pos h2] at h; cases h
      · rw [if_neg h2] at h
        refine ⟨?_, by cases room; exact absurd rfl h2; rfl⟩
        cases ts with
        | nil => cases h
        | cons u ts =>
          simp only at h
          by_cases h3 : tkI u 3 ⟨#[38]⟩
          · rw [if_pos h3] at h
            cases ts with
            | nil => cases h
            | cons v ts =>
              simp only [mustP] at h
              by_cases h4 : v.f0 = 2
              · rw [if_pos h4, thenP_ok] at h
                have := rest_len h
                simp only [List.length_cons] at this ⊢; omega
              · rw [if_neg h4] at h; cases h
          · rw [if_neg h3] at h
            have := rest_len h
            simp only [List.length_cons] at this ⊢; omega
    · rw [if_neg h1] at h; cases h
def semiP : List S39 → PRes (List S39)
  | [] => .bad 7 0
  | t :: r => if tkI t 3 ⟨#[59]⟩ then .ok r else .bad 7 t.f1
def condsP : Nat → List S46 → List S39 → PRes (List S46 × List S39)
  | 0, _, _ => .bad 7 0
  | f + 1, cs, ts => thenP (condP (decide ((cs.length : Int) < 8)) ts) fun x => match x.2 with
    | [] => .bad 7 0
    | u :: r' => if tkI u 1 ⟨#[97, 110, 100]⟩ then condsP f (cs ++ [x.1]) r' else .ok (cs ++ [x.1], u :: r')
def namesP : List ByteArray → List S39 → PRes (List ByteArray × List S39)
  | _, [] => .bad 7 0
  | ns, [t] => if t.f0 = 1 then (if ns.length = 16 then .bad 4 t.f1 else .bad 7 0) else .bad 7 t.f1
  | ns, t :: u :: r => if t.f0 = 1 then (if ns.length = 16 then .bad 4 t.f1 else if tkI u 3 ⟨#[44]⟩ then namesP (ns ++ [t.f2]) r else .ok (ns ++ [t.f2], u :: r)) else .bad 7 t.f1
def whenP : List S39 → PRes (List S46 × List S39)
  | [] => .bad 7 0
  | t :: r => if tkI t 1 ⟨#[119, 104, 101, 110]⟩ then condsP r.length [] r else .ok ([], t :: r)
/-- Behind the names. -/
def tailP (kd ar : Int) (ns : List ByteArray) (ts : List S39) : PRes (S44 × List S39) := thenP (whenP ts) fun x => thenP (semiP x.2) fun r => .ok (⟨⟨kd, ar⟩, ns, x.1⟩, r)
def ruleP (room : Bool) (ts : List S39) : PRes (S44 × List S39) := thenP (actP room ts) fun x => thenP (namesP [] x.2) fun y => tailP x.1.1 x.1.2 y.1 y.2
def rulesP : Nat → List S44 → List S39 → PRes (List S44)
  | 0, _, _ => .bad 7 0
  | _ + 1, _, [] => .bad 7 0
  | f + 1, rs, t :: r => if t.f0 = 4 then .ok rs else thenP (ruleP (decide ((rs.length : Int) < 64)) (t :: r)) fun x => rulesP f (rs ++ [x.1]) x.2
def parseP : List S39 → PRes (Int × Int × List S44)
  | [] => .bad 7 0
  | t :: r => if tkI t 1 ⟨#[100, 101, 102, 97, 117, 108, 116]⟩ then thenP (actP true r) fun x => thenP (semiP x.2) fun r => thenP (rulesP (r.length + 1) [] r) fun rs => .ok (x.1.1, x.1.2, rs) else .bad 7 t.f1
/-- What a text is parsed to. -/
def PARSE (s : ByteArray) : Int × Int × List S44 × Int × Int := if (ALL s).2.1 = 0 then (match parseP (ALL s).1 with
    | .bad e q => (0, 0, [], e, q)
    | .ok x => (x.1, x.2.1, x.2.2, 0, -1)) else (0, 0, [], (ALL s).2.1, (ALL s).2.2)
end Go.Proofs.Ytfahchgglapglaa.Pure
