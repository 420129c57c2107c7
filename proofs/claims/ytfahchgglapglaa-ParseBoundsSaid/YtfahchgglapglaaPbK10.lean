/- Plain lemmas, in one text: L10 L10b L10c L10d L10e L10s. -/
import Derived.Test.YtfahchgglapglaaPbMx0
import Derived.Test.YtfahchgglapglaaPbMx5
import Derived.Test.YtfahchgglapglaaPbMx10
import Derived.Test.YtfahchgglapglaaPbMx11
import Derived.Test.YtfahchgglapglaaPbMx1
import Derived.Test.YtfahchgglapglaaPbMx2
import Derived.Test.YtfahchgglapglaaPbAid
import Derived.Test.YtfahchgglapglaaPbK09
namespace Go.Proofs.Ytfahchgglapglaa.Pure
open Go Go.RowKit Go.Proofs.Ytfahchgglapglaa.M Go.Proofs.Ytfahchgglapglaa.Aid Go.Proofs.YtfahchgglapglaaW.PrintWords Go.Proofs.YtfahchgglapglaaW.PrintLast Go.Proofs.YtfahchgglapglaaW.PrintMore
set_option linter.unusedVariables false
set_option linter.unusedSimpArgs false
-- NEEDS fairleadlaw10_awake.f fairleadref10_Same.f fairleadref10_SameRule.f lex_All.f parse_Parse.f parse_kind.f
-- IMPORT K09
def thenP {α β : Type} (p : PRes α) (f : α → PRes β) : PRes β := match p with
  | .bad e q => .bad e q
  | .ok a => f a
theorem thenP_ok {α β : Type} (a : α) (f : α → PRes β) : thenP (.ok a) f = f a := rfl
def tkI (t : S39) (k : Int) (s : ByteArray) : Prop := t.f0 = k ∧ t.f2 = s
instance (t : S39) (k : Int) (s : ByteArray) : Decidable (tkI t k s) := by unfold tkI; exact inferInstance
theorem toList_is (s : ByteArray) (l : List UInt8) : s.toList = l ↔ s = ⟨l.toArray⟩ := by
  rw [ByteArray.toList_eq]
  constructor
  · intro h; cases s; subst h; simp
  · intro h; subst h; simp
theorem text_eq {a b : ByteArray} (h : a.toList = b.toList) : a = b := by
  rw [toList_is, ByteArray.toList_eq] at h
  rw [h]
theorem tkX {t : S39} {k : Int} {s : ByteArray} (h : tkI t k s) : t.f0 = k ∧ t.f2.toList = s.toList := ⟨h.1, by rw [h.2]⟩
theorem tkN {t : S39} {k : Int} {s : ByteArray} (h : ¬ tkI t k s) : ¬ (t.f0 = k ∧ t.f2.toList = s.toList) := fun e => h ⟨e.1, text_eq e.2⟩
/-- Tokens to the end: the last one alone is the end's. -/
def Good : List S39 → Prop
  | [] => False
  | t :: r => (r = [] ∧ t.f0 = 4) ∨ (t.f0 ≠ 4 ∧ Good r)
theorem Good.tail {t : S39} {r : List S39} (h : Good (t :: r)) (ht : t.f0 ≠ 4) : Good r := by
  rcases h with ⟨_, h⟩ | ⟨_, h⟩
  · exact absurd h ht
  · exact h
theorem Good.ne {r : List S39} (h : Good r) : ∃ t r', r = t :: r' := by
  cases r with
  | nil => exact absurd h id
  | cons t r => exact ⟨t, r, rfl⟩
/-- The head of what is left. -/
structure AtP (L : List S39) (n : Nat) (t : S39) (r : List S39) : Prop where
  rd : rd_T39 L n = t
  lo : 0 ≤ (n : Int) ∧ (n : Int) < (L.length : Int)
  w : wrap64 ((n : Int) + 1) = ((n + 1 : Nat) : Int)
  tl : L.drop (n + 1) = r
theorem at_p {L : List S39} {n : Nat} {t : S39} {r : List S39} (h : L.drop n = t :: r) (hz : L.length ≤ 100000) : AtP L n t r := by
  obtain ⟨h1, h2, h3⟩ := rd_at h
  exact ⟨h1, ⟨by omega, by omega⟩, by rw [w64_id (by omega) (by omega)]; omega, h3⟩
def Link {α β : Type} (L : List S39) (mk : α → Int → β) (p : PRes (α × List S39)) (q : Option (PRes β)) : Prop := match p with
  | .bad e a => q = some (.bad e a)
  | .ok (a, r) => ∃ m : Nat, q = some (.ok (mk a m)) ∧ L.drop m = r ∧ Good r
def mustP (k : Int) : List S39 → PRes (S39 × List S39)
  | [] => .bad 7 0
  | t :: r => if t.f0 = k then .ok (t, r) else .bad 7 t.f1
theorem must_is {L : List S39} {n : Nat} {ts : List S39} (h : L.drop n = ts) (hG : Good ts) (hz : L.length ≤ 100000) (k : Int) (hk : k ≠ 4) : Link L (fun t m => (t, m)) (mustP k ts) (parse_must.f L n k) := by
  obtain ⟨t, r, rfl⟩ := hG.ne
  have a := at_p h hz
  unfold parse_must.f
  simp only [mustP]
  rw [if_pos a.lo, a.rd]
  by_cases h1 : t.f0 = k
  · rw [if_pos h1, if_pos h1, a.w]
    exact ⟨n + 1, rfl, a.tl, hG.tail (by omega)⟩
  · rw [if_neg h1, if_neg h1]
    rfl
def kindP (s : ByteArray) : Int := if s = ⟨#[107, 105, 108, 108]⟩ then 1 else if s = ⟨#[116, 104, 114, 101, 97, 100]⟩ then 2 else if s = ⟨#[116, 114, 97, 112]⟩ then 3 else if s = ⟨#[101, 114, 114, 110, 111]⟩ then 4 else if s = ⟨#[110, 111, 116, 105, 102, 121]⟩ then 5 else if s = ⟨#[116, 114, 97, 99, 101]⟩ then 6 else if s = ⟨#[108, 111, 103]⟩ then 7 else if s = ⟨#[97, 108, 108, 111, 119]⟩ then 8 else 0
theorem kind_is (s : ByteArray) : parse_kind.f s = some (kindP s) := by
  unfold kindP parse_kind.f
  simp only [toList_is]
  repeat' split
  all_goals rfl
def actP (room : Bool) : List S39 → PRes ((Int × Int) × List S39)
  | [] => .bad 7 0
  | t :: r => if t.f0 ≠ 1 ∨ kindP t.f2 = 0 then .bad 7 t.f1 else if room = false then .bad 4 t.f1
    else if kindP t.f2 ≠ 3 ∧ kindP t.f2 ≠ 4 ∧ kindP t.f2 ≠ 6 then .ok ((kindP t.f2, 0), r)
    else match r with
      | [] => .bad 7 0
      | u :: r' => if u.f0 = 2 ∧ 65535 < u.f3 then .bad 6 u.f1 else if u.f0 = 2 then .ok ((kindP t.f2, wrap64 u.f3), r') else .bad 7 u.f1
theorem act_is {L : List S39} {n : Nat} {ts : List S39} (h : L.drop n = ts) (hG : Good ts) (hz : L.length ≤ 100000) (room : Bool) : Link L (fun a m => (a.1, a.2, m)) (actP room ts) (parse_act.f L n room) := by
  obtain ⟨t, r, rfl⟩ := hG.ne
  have a := at_p h hz
  unfold parse_act.f
  simp only [actP]
  rw [if_pos a.lo, a.rd, kind_is, Option.bind_some]
  by_cases h1 : t.f0 ≠ 1 ∨ kindP t.f2 = 0
  · rw [if_pos h1, if_pos h1]; rfl
  · have ht : t.f0 = 1 := Decidable.byContradiction fun e => h1 (.inl e)
    have hG1 := hG.tail (by omega)
    rw [if_neg h1, if_neg h1]
    by_cases h2 : room = false
    · rw [if_pos h2, if_pos h2]; rfl
    · rw [if_neg h2, if_neg h2]
      by_cases h3 : kindP t.f2 ≠ 3 ∧ kindP t.f2 ≠ 4 ∧ kindP t.f2 ≠ 6
      · rw [if_pos h3, if_pos h3, a.w]
        exact ⟨n + 1, rfl, a.tl, hG1⟩
      · rw [if_neg h3, if_neg h3]
        obtain ⟨u, r', rfl⟩ := hG1.ne
        have b := at_p a.tl hz
        rw [a.w, if_pos b.lo, b.rd]
        by_cases h4 : u.f0 = 2 ∧ 65535 < u.f3
        · rw [if_pos h4]; simp only [if_pos h4]; rfl
        · rw [if_neg h4]; simp only [if_neg h4]
          by_cases h5 : u.f0 = 2
          · rw [if_pos h5, b.w]; simp only [if_pos h5]
            exact ⟨n + 1 + 1, rfl, b.tl, hG1.tail (by omega)⟩
          · rw [if_neg h5]; simp only [if_neg h5]; rfl
def opN (t : S39) : Int := if tkI t 3 ⟨#[61, 61]⟩ then 1 else if tkI t 3 ⟨#[33, 61]⟩ then 2 else if tkI t 3 ⟨#[60]⟩ then 3 else if tkI t 3 ⟨#[60, 61]⟩ then 4 else if tkI t 3 ⟨#[62]⟩ then 5 else if tkI t 3 ⟨#[62, 61]⟩ then 6 else 0
def opP : List S39 → PRes (Int × List S39)
  | [] => .bad 7 0
  | t :: r => if opN t = 0 then .bad 7 t.f1 else .ok (opN t, r)
theorem opN_kind (t : S39) (h : opN t ≠ 0) : t.f0 = 3 := by
  unfold opN at h
  by_cases h0 : t.f0 = 3
  · exact h0
  · have : ∀ s, ¬ tkI t 3 s := fun s hs => h0 hs.1
    rw [if_neg (this _), if_neg (this _), if_neg (this _), if_neg (this _), if_neg (this _), if_neg (this _)] at h
    exact absurd rfl h
theorem op_is {L : List S39} {n : Nat} {ts : List S39} (h : L.drop n = ts) (hG : Good ts) (hz : L.length ≤ 100000) (k : Nat) (hk : 8 ≤ k) : Link L (fun o m => (o, m)) (opP ts) (parse_op.f k L n) := by
  obtain ⟨t, r, rfl⟩ := hG.ne
  have a := at_p h hz
  obtain ⟨k, rfl⟩ : ∃ m, k = m + 7 := ⟨k - 7, by omega⟩
  unfold parse_op.f
  simp only [opP]
  rw [if_pos a.lo]
  obtain ⟨SG, hSG⟩ : ∃ SG : List ByteArray, SG = [(⟨#[61, 61]⟩ : ByteArray), (⟨#[33, 61]⟩ : ByteArray), (⟨#[60]⟩ : ByteArray), (⟨#[60, 61]⟩ : ByteArray), (⟨#[62]⟩ : ByteArray), (⟨#[62, 61]⟩ : ByteArray)] := ⟨_, rfl⟩
  rw [← hSG]
  have st : ∀ (k i : Nat) (sg : ByteArray), i < 6 → rdOf ByteArray.empty SG i = sg → parse_op.l0 (k + 1) L n SG i = if tkI t 3 sg then some (.ok ((i : Int) + 1, ((n + 1 : Nat) : Int))) else parse_op.l0 k L n SG ((i + 1 : Nat) : Int) := by
    rintro k i sg hi rfl
    have hlen : (SG.length : Int) = 6 := by rw [hSG]; rfl
    rw [parse_op.l0.eq_2, if_pos (by omega), a.rd, a.w, w64_id (x := 1 + (i : Int)) (by omega) (by omega), w64_id (x := (i : Int) + 1) (by omega) (by omega), show (1 : Int) + i = (i : Int) + 1 by omega]
    by_cases hx : tkI t 3 (rdOf ByteArray.empty SG i)
    · rw [if_pos (tkX hx), if_pos hx]
    · rw [if_neg (tkN hx), if_neg hx]
      rfl
  have en : ∀ k, parse_op.l0 (k + 1) L n SG ((6 : Nat) : Int) = some (.bad 7 t.f1) := by
    intro k
    have hlen : (SG.length : Int) = 6 := by rw [hSG]; rfl
    rw [parse_op.l0.eq_2, if_neg (by omega), if_pos (by omega), a.rd]
  have e := st (k + 6) 0 ⟨#[61, 61]⟩ (by decide) (by rw [hSG]; rfl)
  rw [show ((0 : Nat) : Int) = 0 from rfl] at e
  rw [e, st (k + 5) 1 ⟨#[33, 61]⟩ (by decide) (by rw [hSG]; rfl), st (k + 4) 2 ⟨#[60]⟩ (by decide) (by rw [hSG]; rfl), st (k + 3) 3 ⟨#[60, 61]⟩ (by decide) (by rw [hSG]; rfl), st (k + 2) 4 ⟨#[62]⟩ (by decide) (by rw [hSG]; rfl), st (k + 1) 5 ⟨#[62, 61]⟩ (by decide) (by rw [hSG]; rfl), en k]
  have fin : ∀ o : Int, opN t = o → o ≠ 0 → Link L (fun o m => (o, m)) (if opN t = 0 then (.bad 7 t.f1 : PRes (Int × List S39)) else .ok (opN t, r)) (some (.ok (o, ((n + 1 : Nat) : Int)))) := by
    rintro o rfl h0
    rw [if_neg h0]
    exact ⟨n + 1, rfl, a.tl, hG.tail (by have := opN_kind t h0; omega)⟩
  by_cases h1 : tkI t 3 ⟨#[61, 61]⟩
  · rw [if_pos h1]
    exact fin _ (by unfold opN; rw [if_pos h1]; rfl) (by decide)
  rw [if_neg h1]
  by_cases h2 : tkI t 3 ⟨#[33, 61]⟩
  · rw [if_pos h2]
    exact fin _ (by unfold opN; rw [if_neg h1, if_pos h2]; rfl) (by decide)
  rw [if_neg h2]
  by_cases h3 : tkI t 3 ⟨#[60]⟩
  · rw [if_pos h3]
    exact fin _ (by unfold opN; rw [if_neg h1, if_neg h2, if_pos h3]; rfl) (by decide)
  rw [if_neg h3]
  by_cases h4 : tkI t 3 ⟨#[60, 61]⟩
  · rw [if_pos h4]
    exact fin _ (by unfold opN; rw [if_neg h1, if_neg h2, if_neg h3, if_pos h4]; rfl) (by decide)
  rw [if_neg h4]
  by_cases h5 : tkI t 3 ⟨#[62]⟩
  · rw [if_pos h5]
    exact fin _ (by unfold opN; rw [if_neg h1, if_neg h2, if_neg h3, if_neg h4, if_pos h5]; rfl) (by decide)
  rw [if_neg h5]
  by_cases h6 : tkI t 3 ⟨#[62, 61]⟩
  · rw [if_pos h6]
    exact fin _ (by unfold opN; rw [if_neg h1, if_neg h2, if_neg h3, if_neg h4, if_neg h5, if_pos h6]; rfl) (by decide)
  rw [if_neg h6, if_pos (show opN t = 0 by unfold opN; rw [if_neg h1, if_neg h2, if_neg h3, if_neg h4, if_neg h5, if_neg h6])]
  rfl
def argP (t : S39) : Prop := t.f0 = 1 ∧ t.f2.size = 4 ∧ t.f2.extract 0 3 = ⟨#[97, 114, 103]⟩ ∧ 48 ≤ bt t.f2 3 ∧ bt t.f2 3 ≤ 53
instance (t : S39) : Decidable (argP t) := by unfold argP; exact inferInstance
def restP (ts : List S39) (a m : Int) : PRes (S46 × List S39) := thenP (opP ts) fun x => thenP (mustP 2 x.2) fun y => .ok (⟨a, x.1, m, y.1.f3⟩, y.2)
def condP (room : Bool) : List S39 → PRes (S46 × List S39)
  | [] => .bad 7 0
  | t :: r => if argP t then if room = false then .bad 4 t.f1 else match r with
      | [] => .bad 7 0
      | u :: r' => if tkI u 3 ⟨#[38]⟩ then thenP (mustP 2 r') fun y => restP y.2 (bt t.f2 3 - 48) y.1.f3 else restP (u :: r') (bt t.f2 3 - 48) 18446744073709551615
    else .bad 7 t.f1
def mkC (c : S46) (m : Int) : Int × Int × Int × Int × Int := (c.f0, c.f1, c.f2, c.f3, m)
theorem rest_is {L : List S39} {n : Nat} {ts : List S39} (h : L.drop n = ts) (hG : Good ts) (hz : L.length ≤ 100000) (a m : Int) (k : Nat) (hk : 8 ≤ k) : Link L mkC (restP ts a m) (parse_cond.rest k L n a m) := by
  unfold restP parse_cond.rest
  have ho := op_is h hG hz k hk
  cases hp : opP ts with
  | bad e q =>
    rw [hp] at ho
    rw [show parse_op.f k L n = _ from ho, Option.bind_some]
    rfl
  | ok x =>
    obtain ⟨o, r⟩ := x
    rw [hp] at ho
    obtain ⟨n1, e1, h1, hG1⟩ := ho
    rw [e1, Option.bind_some, thenP_ok]
    have hm := must_is h1 hG1 hz 2 (by decide)
    simp only
    cases hq : mustP 2 r with
    | bad e q =>
      rw [hq] at hm
      rw [show parse_must.f L n1 2 = _ from hm, Option.bind_some]
      rfl
    | ok y =>
      obtain ⟨t, r2⟩ := y
      rw [hq] at hm
      obtain ⟨n2, e2, h2, hG2⟩ := hm
      rw [e2, Option.bind_some, thenP_ok]
      exact ⟨n2, rfl, h2, hG2⟩
theorem cond_is {L : List S39} {n : Nat} {ts : List S39} (h : L.drop n = ts) (hG : Good ts) (hz : L.length ≤ 100000) (room : Bool) (k : Nat) (hk : 8 ≤ k) : Link L mkC (condP room ts) (parse_cond.f k L n room) := by
  obtain ⟨t, r, rfl⟩ := hG.ne
  have a := at_p h hz
  unfold parse_cond.f
  simp only [condP]
  rw [if_pos a.lo, a.rd]
  by_cases h1 : argP t
  · rw [if_pos h1]
    have h1' := h1
    unfold argP at h1'
    rw [if_pos (show t.f0 = 1 ∧ t.f2.size = 4 ∧ (t.f2.extract 0 3).toList = [97, 114, 103] ∧ _ from ⟨h1'.1, h1'.2.1, (toList_is _ _).2 h1'.2.2.1, h1'.2.2.2⟩)]
    by_cases h2 : room = false
    · rw [if_pos h2, if_pos h2]; rfl
    · rw [if_neg h2, if_neg h2]
      have hG1 := hG.tail (by have := h1'.1; omega)
      obtain ⟨u, r', rfl⟩ := hG1.ne
      have b := at_p a.tl hz
      rw [a.w, if_pos b.lo, b.rd]
      by_cases h3 : tkI u 3 ⟨#[38]⟩
      · rw [if_pos (tkX h3)]
        simp only [if_pos h3]
        have hG2 := hG1.tail (by have := h3.1; omega)
        rw [b.w]
        have hm := must_is b.tl hG2 hz 2 (by decide)
        cases hq : mustP 2 r' with
        | bad e q =>
          rw [hq] at hm
          rw [show parse_must.f L _ 2 = _ from hm, Option.bind_some]
          rfl
        | ok y =>
          obtain ⟨v, r2⟩ := y
          rw [hq] at hm
          obtain ⟨n2, e2, h2, hG2⟩ := hm
          rw [e2, Option.bind_some, thenP_ok]
          exact rest_is h2 hG2 hz _ _ k hk
      · rw [if_neg (tkN h3)]
        simp only [if_neg h3]
        exact rest_is a.tl hG1 hz _ _ k hk
  · rw [if_neg h1, if_neg (fun e => h1 ⟨e.1, e.2.1, (toList_is _ _).1 e.2.2.1, e.2.2.2⟩)]
    rfl
theorem rest_len {ts : List S39} {a m : Int} {c : S46} {r : List S39} (h : restP ts a m = .ok (c, r)) : r.length < ts.length := by
  unfold restP at h
  cases ts with
  | nil => cases h
  | cons t ts =>
    simp only [opP] at h
    by_cases h1 : opN t = 0
    · rw [if_pos h1] at h; cases h
    · rw [if_neg h1, thenP_ok] at h
      cases ts with
      | nil => cases h
      | cons u ts =>
        simp only [mustP] at h
        by_cases h2 : u.f0 = 2
        · rw [if_pos h2, thenP_ok] at h
          cases h
          simp only [List.length_cons]; omega
        · rw [if_neg h2] at h; cases h
theorem cond_len {room : Bool} {ts : List S39} {c : S46} {r : List S39} (h : condP room ts = .ok (c, r)) : r.length < ts.length ∧ room = true := by
  cases ts with
  | nil => cases h
  | cons t ts =>
    simp only [condP] at h
    by_cases h1 : argP t
    · rw [if_pos h1] at h
      by_cases h2 : room = false
      · rw [if_pos h2] at h; cases h
      · rw [if_neg h2] at h
        refine ⟨?_, by cases room; exact absurd rfl h2; rfl⟩
        cases ts with
        | nil => cases h
        | cons u ts =>
          simp only at h
          by_cases h3 : tkI u 3 ⟨#[38]⟩
          · rw [if_pos h3] at h
            cases ts with
            | nil => cases h
            | cons v ts =>
              simp only [mustP] at h
              by_cases h4 : v.f0 = 2
              · rw [if_pos h4, thenP_ok] at h
                have := rest_len h
                simp only [List.length_cons] at this ⊢; omega
              · rw [if_neg h4] at h; cases h
          · rw [if_neg h3] at h
            have := rest_len h
            simp only [List.length_cons] at this ⊢; omega
    · rw [if_neg h1] at h; cases h
def semiP : List S39 → PRes (List S39)
  | [] => .bad 7 0
  | t :: r => if tkI t 3 ⟨#[59]⟩ then .ok r else .bad 7 t.f1
def condsP : Nat → List S46 → List S39 → PRes (List S46 × List S39)
  | 0, _, _ => .bad 7 0
  | f + 1, cs, ts => thenP (condP (decide ((cs.length : Int) < 8)) ts) fun x => match x.2 with
    | [] => .bad 7 0
    | u :: r' => if tkI u 1 ⟨#[97, 110, 100]⟩ then condsP f (cs ++ [x.1]) r' else .ok (cs ++ [x.1], u :: r')
def namesP : List ByteArray → List S39 → PRes (List ByteArray × List S39)
  | _, [] => .bad 7 0
  | ns, [t] => if t.f0 = 1 then (if ns.length = 16 then .bad 4 t.f1 else .bad 7 0) else .bad 7 t.f1
  | ns, t :: u :: r => if t.f0 = 1 then (if ns.length = 16 then .bad 4 t.f1 else if tkI u 3 ⟨#[44]⟩ then namesP (ns ++ [t.f2]) r else .ok (ns ++ [t.f2], u :: r)) else .bad 7 t.f1
def whenP : List S39 → PRes (List S46 × List S39)
  | [] => .bad 7 0
  | t :: r => if tkI t 1 ⟨#[119, 104, 101, 110]⟩ then condsP r.length [] r else .ok ([], t :: r)
/-- Behind the names. -/
def tailP (kd ar : Int) (ns : List ByteArray) (ts : List S39) : PRes (S44 × List S39) := thenP (whenP ts) fun x => thenP (semiP x.2) fun r => .ok (⟨⟨kd, ar⟩, ns, x.1⟩, r)
def ruleP (room : Bool) (ts : List S39) : PRes (S44 × List S39) := thenP (actP room ts) fun x => thenP (namesP [] x.2) fun y => tailP x.1.1 x.1.2 y.1 y.2
def rulesP : Nat → List S44 → List S39 → PRes (List S44)
  | 0, _, _ => .bad 7 0
  | _ + 1, _, [] => .bad 7 0
  | f + 1, rs, t :: r => if t.f0 = 4 then .ok rs else thenP (ruleP (decide ((rs.length : Int) < 64)) (t :: r)) fun x => rulesP f (rs ++ [x.1]) x.2
def parseP : List S39 → PRes (Int × Int × List S44)
  | [] => .bad 7 0
  | t :: r => if tkI t 1 ⟨#[100, 101, 102, 97, 117, 108, 116]⟩ then thenP (actP true r) fun x => thenP (semiP x.2) fun r => thenP (rulesP (r.length + 1) [] r) fun rs => .ok (x.1.1, x.1.2, rs) else .bad 7 t.f1
/-- What a text is parsed to. -/
def PARSE (s : ByteArray) : Int × Int × List S44 × Int × Int := if (ALL s).2.1 = 0 then (match parseP (ALL s).1 with
    | .bad e q => (0, 0, [], e, q)
    | .ok x => (x.1, x.2.1, x.2.2, 0, -1)) else (0, 0, [], (ALL s).2.1, (ALL s).2.2)
def mkR (x : S44) (m : Int) : S44 × Int := (x, m)
def closeP (kd ar : Int) (ns : List ByteArray) (cs : List S46) (ts : List S39) : PRes (S44 × List S39) := thenP (semiP ts) fun r => .ok (⟨⟨kd, ar⟩, ns, cs⟩, r)
theorem e_is {L : List S39} {n : Nat} {ts : List S39} (h : L.drop n = ts) (hG : Good ts) (hz : L.length ≤ 100000) (kd ar : Int) (ns : List ByteArray) (cs : List S46) : Link L mkR (closeP kd ar ns cs ts) (parse_rule.e L n kd ar ns cs) := by
  obtain ⟨t, r, rfl⟩ := hG.ne
  have a := at_p h hz
  unfold closeP parse_rule.e
  simp only [semiP]
  rw [if_pos a.lo, a.rd]
  by_cases h1 : tkI t 3 ⟨#[59]⟩
  · rw [if_pos h1, if_pos (tkX h1), a.w]
    exact ⟨n + 1, rfl, a.tl, hG.tail (by have := h1.1; omega)⟩
  · rw [if_neg h1, if_neg (tkN h1)]
    rfl
theorem conds_is {L : List S39} (hz : L.length ≤ 100000) (kd ar : Int) (ns : List ByteArray) (f : Nat) : ∀ (k n : Nat) (ts : List S39) (cs : List S46), L.drop n = ts → Good ts → ts.length ≤ f → f + 10 < k → cs.length ≤ 8 →
    Link L mkR (thenP (condsP f cs ts) fun y => closeP kd ar ns y.1 y.2) (parse_rule.l1 k L true n kd ar ns cs) := by
  induction f with
  | zero =>
    intro k n ts cs h hG hl
    obtain ⟨t, r, rfl⟩ := hG.ne
    simp at hl
  | succ f ih =>
    intro k n ts cs h hG hl hk hcs
    obtain ⟨k, rfl⟩ : ∃ m, k = m + 1 := ⟨k - 1, by omega⟩
    rw [parse_rule.l1.eq_2, if_pos rfl, if_pos (by omega)]
    simp only [condsP]
    have hc := cond_is h hG hz (decide ((cs.length : Int) < 8)) k (by omega)
    cases hp : condP (decide ((cs.length : Int) < 8)) ts with
    | bad e q =>
      rw [hp] at hc
      rw [show parse_cond.f k L n _ = _ from hc, Option.bind_some]
      rfl
    | ok x =>
      obtain ⟨c, r⟩ := x
      rw [hp] at hc
      obtain ⟨n1, e1, h1, hG1⟩ := hc
      have hlen := cond_len hp
      have hlt := of_decide_eq_true hlen.2
      rw [e1, Option.bind_some, thenP_ok]
      obtain ⟨u, r', rfl⟩ := hG1.ne
      have b := at_p h1 hz
      refine Eq.mp (congrArg (Link L mkR _) (Eq.symm (if_pos b.lo))) ?_
      show Link L mkR (thenP (if tkI u 1 ⟨#[97, 110, 100]⟩ then condsP f (cs ++ [c]) r' else .ok (cs ++ [c], u :: r')) fun y => closeP kd ar ns y.1 y.2) (parse_rule.l1 k L (decide ((rd_T39 L n1).f0 = 1 ∧ (rd_T39 L n1).f2.toList = (⟨#[97, 110, 100]⟩ : ByteArray).toList)) (if (rd_T39 L n1).f0 = 1 ∧ (rd_T39 L n1).f2.toList = (⟨#[97, 110, 100]⟩ : ByteArray).toList then wrap64 ((n1 : Int) + 1) else n1) kd ar ns (cs ++ [c]))
      rw [b.rd]
      by_cases h2 : tkI u 1 ⟨#[97, 110, 100]⟩
      · rw [decide_eq_true (tkX h2), if_pos (tkX h2), if_pos h2, b.w]
        exact ih k (n1 + 1) r' (cs ++ [c]) b.tl (hG1.tail (by have := h2.1; omega)) (by have := hlen.1; simp only [List.length_cons] at this; omega) (by omega) (by simp; omega)
      · rw [decide_eq_false (tkN h2), if_neg (tkN h2), if_neg h2, thenP_ok]
        obtain ⟨k, rfl⟩ : ∃ m, k = m + 1 := ⟨k - 1, by omega⟩
        rw [parse_rule.l1.eq_2, if_neg (by decide)]
        exact e_is h1 hG1 hz kd ar ns _
theorem tail_is {L : List S39} {n : Nat} {ts : List S39} (h : L.drop n = ts) (hG : Good ts) (hz : L.length ≤ 100000) (kd ar : Int) (ns : List ByteArray) (k : Nat) (hk : ts.length + 10 < k) : Link L mkR (tailP kd ar ns ts) (parse_rule.g k L n kd ar ns) := by
  obtain ⟨t, r, rfl⟩ := hG.ne
  have a := at_p h hz
  unfold tailP parse_rule.g
  simp only [whenP]
  rw [if_pos a.lo, a.rd]
  by_cases h1 : tkI t 1 ⟨#[119, 104, 101, 110]⟩
  · rw [if_pos h1, if_pos (tkX h1), a.w]
    exact conds_is hz kd ar ns r.length k (n + 1) r [] a.tl (hG.tail (by have := h1.1; omega)) (Nat.le_refl _) (by simp only [List.length_cons] at hk; omega) (by decide)
  · rw [if_neg h1, if_neg (tkN h1), thenP_ok]
    exact e_is h hG hz kd ar ns []
theorem names_is {L : List S39} (hz : L.length ≤ 100000) (kd ar : Int) (f : Nat) : ∀ (k n : Nat) (ts : List S39) (ns : List ByteArray), L.drop n = ts → Good ts → ts.length ≤ f → f + 12 < k → ns.length ≤ 16 →
    Link L mkR (thenP (namesP ns ts) fun y => tailP kd ar y.1 y.2) (parse_rule.l0 k L true n kd ar ns) := by
  induction f with
  | zero =>
    intro k n ts ns h hG hl
    obtain ⟨t, r, rfl⟩ := hG.ne
    simp at hl
  | succ f ih =>
    intro k n ts ns h hG hl hk hns
    obtain ⟨k, rfl⟩ : ∃ m, k = m + 1 := ⟨k - 1, by omega⟩
    obtain ⟨t, r, rfl⟩ := hG.ne
    have a := at_p h hz
    rw [parse_rule.l0.eq_2, if_pos rfl, if_pos a.lo, a.rd]
    by_cases h1 : t.f0 = 1
    · have hG1 := hG.tail (by omega)
      obtain ⟨u, r', rfl⟩ := hG1.ne
      have b := at_p a.tl hz
      simp only [namesP]
      rw [if_pos h1, if_pos h1]
      by_cases h2 : ns.length = 16
      · rw [if_pos h2, if_pos h2]; rfl
      · rw [if_neg h2, if_neg h2, a.w, if_pos (show ns.length < 1000 ∧ _ from ⟨by omega, b.lo⟩), b.rd]
        by_cases h3 : tkI u 3 ⟨#[44]⟩
        · rw [decide_eq_true (tkX h3), if_pos (tkX h3), if_pos h3, b.w]
          exact ih k (n + 1 + 1) r' (ns ++ [t.f2]) b.tl (hG1.tail (by have := h3.1; omega)) (by simp only [List.length_cons] at hl; omega) (by omega) (by simp; omega)
        · rw [decide_eq_false (tkN h3), if_neg (tkN h3), if_neg h3, thenP_ok]
          obtain ⟨k, rfl⟩ : ∃ m, k = m + 1 := ⟨k - 1, by omega⟩
          rw [parse_rule.l0.eq_2, if_neg (by decide)]
          exact tail_is a.tl hG1 hz kd ar _ k (by simp only [List.length_cons] at hl ⊢; omega)
    · rw [if_neg h1]
      cases r with
      | nil => simp only [namesP]; rw [if_neg h1]; rfl
      | cons u r => simp only [namesP]; rw [if_neg h1]; rfl
theorem act_len {room : Bool} {ts : List S39} {x : Int × Int} {r : List S39} (h : actP room ts = .ok (x, r)) : r.length < ts.length := by
  cases ts with
  | nil => cases h
  | cons t ts =>
    simp only [actP] at h
    split at h
    · cases h
    · split at h
      · cases h
      · split at h
        · cases h; simp only [List.length_cons]; omega
        · cases ts with
          | nil => cases h
          | cons u ts =>
            simp only at h
            split at h
            · cases h
            · split at h
              · cases h; simp only [List.length_cons]; omega
              · cases h
theorem rule_is {L : List S39} {n : Nat} {ts : List S39} (h : L.drop n = ts) (hG : Good ts) (hz : L.length ≤ 100000) (room : Bool) (k : Nat) (hk : ts.length + 12 < k) : Link L mkR (ruleP room ts) (parse_rule.f k L n room) := by
  unfold ruleP parse_rule.f
  have ha := act_is h hG hz room
  cases hp : actP room ts with
  | bad e q =>
    rw [hp] at ha
    rw [show parse_act.f L n room = _ from ha, Option.bind_some]
    rfl
  | ok x =>
    obtain ⟨⟨kd, ar⟩, r⟩ := x
    rw [hp] at ha
    obtain ⟨n1, e1, h1, hG1⟩ := ha
    rw [e1, Option.bind_some, thenP_ok]
    exact names_is hz kd ar r.length k n1 r [] h1 hG1 (Nat.le_refl _) (by have := act_len hp; omega) (by decide)
theorem conds_len (f : Nat) : ∀ {cs ts cs' r}, condsP f cs ts = .ok (cs', r) → r.length < ts.length := by
  induction f with
  | zero => intro cs ts cs' r h; cases h
  | succ f ih =>
    intro cs ts cs' r h
    simp only [condsP] at h
    cases hp : condP (decide ((cs.length : Int) < 8)) ts with
    | bad e q => rw [hp] at h; cases h
    | ok x =>
      obtain ⟨c, r1⟩ := x
      have hl := (cond_len hp).1
      rw [hp, thenP_ok] at h
      cases r1 with
      | nil => cases h
      | cons u r1 =>
        simp only at h
        by_cases h2 : tkI u 1 ⟨#[97, 110, 100]⟩
        · rw [if_pos h2] at h
          have := ih h
          simp only [List.length_cons] at hl; omega
        · rw [if_neg h2] at h
          cases h
          exact hl
theorem semi_len {ts r : List S39} (h : semiP ts = .ok r) : r.length < ts.length := by
  cases ts with
  | nil => cases h
  | cons t ts =>
    simp only [semiP] at h
    split at h
    · cases h; simp
    · cases h
theorem tail_len {kd ar : Int} {ns : List ByteArray} {ts : List S39} {x : S44} {r : List S39} (h : tailP kd ar ns ts = .ok (x, r)) : r.length < ts.length := by
  unfold tailP at h
  cases ts with
  | nil => cases h
  | cons t ts =>
    simp only [whenP] at h
    by_cases h1 : tkI t 1 ⟨#[119, 104, 101, 110]⟩
    · rw [if_pos h1] at h
      cases hp : condsP ts.length [] ts with
      | bad e q => rw [hp] at h; cases h
      | ok y =>
        obtain ⟨cs, r1⟩ := y
        rw [hp, thenP_ok] at h
        have hl := conds_len _ hp
        cases hq : semiP r1 with
        | bad e q => simp only [hq] at h; cases h
        | ok z =>
          simp only [hq, thenP_ok] at h
          cases h
          have := semi_len hq
          simp only [List.length_cons]; omega
    · rw [if_neg h1, thenP_ok] at h
      cases hq : semiP (t :: ts) with
      | bad e q => simp only [hq] at h; cases h
      | ok z =>
        simp only [hq, thenP_ok] at h
        cases h
        exact semi_len hq
theorem names_len (ts : List S39) : ∀ {ns ns' r}, namesP ns ts = .ok (ns', r) → r.length < ts.length := by
  intro ns
  induction ns, ts using namesP.induct with
  | case1 ns => intro _ _ h; cases h
  | case2 ns t h1 h2 => intro _ _ h; simp only [namesP, h1, h2, if_true] at h; cases h
  | case3 ns t h1 h2 => intro _ _ h; simp only [namesP, h1, h2, if_true, if_false] at h; cases h
  | case4 ns t h1 => intro _ _ h; simp only [namesP, h1, if_false] at h; cases h
  | case5 ns t u r h1 h2 => intro _ _ h; simp only [namesP, h1, h2, if_true] at h; cases h
  | case6 ns t u r h1 h2 h3 ih => intro _ _ h; simp only [namesP, h1, h2, h3, if_true, if_false] at h; have := ih h; simp only [List.length_cons]; omega
  | case7 ns t u r h1 h2 h3 => intro _ _ h; simp only [namesP, h1, h2, h3, if_true, if_false] at h; cases h; simp only [List.length_cons]; omega
  | case8 ns t u r h1 => intro _ _ h; simp only [namesP, h1, if_false] at h; cases h
theorem rule_len {room : Bool} {ts : List S39} {x : S44} {r : List S39} (h : ruleP room ts = .ok (x, r)) : r.length < ts.length := by
  unfold ruleP at h
  cases hp : actP room ts with
  | bad e q => rw [hp] at h; cases h
  | ok y =>
    obtain ⟨a, r1⟩ := y
    rw [hp, thenP_ok] at h
    have h1 := act_len hp
    cases hq : namesP [] r1 with
    | bad e q => simp only [hq] at h; cases h
    | ok z =>
      obtain ⟨ns, r2⟩ := z
      simp only [hq, thenP_ok] at h
      have h2 := names_len _ hq
      have h3 := tail_len h
      omega
theorem rules_is {L : List S39} (hz : L.length ≤ 100000) (f : Nat) : ∀ (k n : Nat) (ts : List S39) (rs : List S44), L.drop n = ts → Good ts → ts.length < f → f + 14 < k → rs.length + ts.length ≤ f + 64 → rs.length ≤ 64 →
    parse_Parse.l0 k L n rs = some (rulesP f rs ts) := by
  induction f with
  | zero => intro k n ts rs h hG hl; omega
  | succ f ih =>
    intro k n ts rs h hG hl hk _ hrs
    obtain ⟨k, rfl⟩ : ∃ m, k = m + 1 := ⟨k - 1, by omega⟩
    obtain ⟨t, r, rfl⟩ := hG.ne
    have a := at_p h hz
    rw [parse_Parse.l0.eq_2, if_pos a.lo, a.rd]
    simp only [rulesP]
    by_cases h1 : t.f0 = 4
    · rw [if_pos h1, if_pos h1]
    · rw [if_neg h1, if_neg h1, if_pos (by omega)]
      have hr := rule_is h hG hz (decide ((rs.length : Int) < 64)) k (by omega)
      cases hp : ruleP (decide ((rs.length : Int) < 64)) (t :: r) with
      | bad e q =>
        rw [hp] at hr
        rw [show parse_rule.f k L n _ = _ from hr, Option.bind_some]
        rfl
      | ok y =>
        obtain ⟨x, r1⟩ := y
        rw [hp] at hr
        obtain ⟨n1, e1, h2, hG2⟩ := hr
        rw [e1, Option.bind_some, thenP_ok]
        have hl2 := rule_len hp
        have hlt : rs.length < 64 := by
          by_cases hlt : (rs.length : Int) < 64
          · omega
          · rw [decide_eq_false hlt] at hp
            unfold ruleP at hp
            simp only [actP] at hp
            split at hp
            · cases hp
            · rw [if_pos trivial] at hp; cases hp
        exact ih k n1 r1 (rs ++ [x]) h2 hG2 (by simp only [List.length_cons] at hl hl2 ⊢; omega) (by omega) (by simp; simp only [List.length_cons] at hl hl2; omega) (by simp; omega)
theorem lies_good {s : ByteArray} : ∀ (l : List S39) (last : Nat), lies s last l → Good l
  | [], _, h => h
  | t :: r, last, h => by
    rcases h with ⟨h1, h2, _⟩ | ⟨h1, p, n, _, _, _, _, _, h4, _, h5⟩
    · exact .inl ⟨h1, by rw [h2]⟩
    · exact .inr ⟨h4, lies_good r _ h5⟩
theorem ALL_good (s : ByteArray) (h : (ALL s).2.1 = 0) : Good (ALL s).1 ∧ lies s 0 (ALL s).1 := by
  unfold ALL at h ⊢
  by_cases hz : 8192 < s.size
  · rw [if_pos hz] at h; exact absurd h (by decide)
  · rw [if_neg hz] at h ⊢
    unfold fin at h ⊢
    by_cases h2 : (allP s (s.size + 1) (blankL (ch s) false)).2.1 = 0
    · rw [if_pos h2, List.nil_append]
      have hb := blankL_le (ch s) false
      rw [ch_len] at hb
      have hl := allP_lies s (s.size + 1) (blankL (ch s) false) 0 (Nat.zero_le _) hb (by omega) h2
      exact ⟨lies_good _ _ hl, hl⟩
    · rw [if_neg h2] at h; exact absurd h h2
theorem parse_g_is {L : List S39} (hz : L.length ≤ 100000) (hG : Good L) (k : Nat) (hk : L.length + 40 < k) : parse_Parse.g k L = some (parseP L) := by
  obtain ⟨t, r, rfl⟩ := hG.ne
  have a := at_p (L := t :: r) (n := 0) rfl hz
  unfold parse_Parse.g
  simp only [parseP]
  have r0 : rd_T39 (t :: r) 0 = t := a.rd
  have lo0 : (0 : Int) ≤ 0 ∧ (0 : Int) < ((t :: r).length : Int) := a.lo
  rw [if_pos lo0, r0]
  by_cases h1 : tkI t 1 ⟨#[100, 101, 102, 97, 117, 108, 116]⟩
  · rw [if_pos (tkX h1), if_pos h1]
    have hG1 := hG.tail (by have := h1.1; omega)
    have ha := act_is a.tl hG1 hz true
    have e1 : wrap64 (0 + 1) = ((0 + 1 : Nat) : Int) := a.w
    rw [e1]
    cases hp : actP true r with
    | bad e q =>
      rw [hp] at ha
      rw [show parse_act.f (t :: r) _ true = _ from ha, Option.bind_some]
      rfl
    | ok x =>
      obtain ⟨⟨kd, ar⟩, r1⟩ := x
      rw [hp] at ha
      obtain ⟨n1, e2, h2, hG2⟩ := ha
      rw [e2, Option.bind_some, thenP_ok]
      have hl1 := act_len hp
      obtain ⟨u, r', rfl⟩ := hG2.ne
      have b := at_p h2 hz
      simp only [semiP]
      unfold parse_Parse.h
      refine Eq.trans (congrArg (fun z => Option.bind z _) (if_pos b.lo)) ?_
      rw [b.rd]
      by_cases h3 : tkI u 3 ⟨#[59]⟩
      · rw [if_pos (tkX h3), if_pos h3, b.w, thenP_ok, rules_is hz (r'.length + 1) k (n1 + 1) r' [] b.tl (hG2.tail (by have := h3.1; omega)) (by omega) (by simp only [List.length_cons] at hl1 hk ⊢; omega) (by simp; omega) (by simp), Option.bind_some]
        cases rulesP (r'.length + 1) [] r' with
        | bad e q => rfl
        | ok rs => rfl
      · rw [if_neg (tkN h3), if_neg h3]
        rfl
  · rw [if_neg (tkN h1), if_neg h1]
theorem parse_is (s : ByteArray) (k : Nat) (hk : 40000 ≤ k) : parse_Parse.f k s = some (PARSE s) := by
  unfold parse_Parse.f PARSE
  rw [all_is s k hk, Option.bind_some]
  by_cases h : (ALL s).2.1 = 0
  · have hl := ALL_len s
    simp only [h, if_true]
    rw [parse_g_is (by omega) (ALL_good s h).1 k (by omega), Option.bind_some]
    cases parseP (ALL s).1 with
    | bad e q => rfl
    | ok x => rfl
  · simp only [h, if_false]
theorem awake10 (k : Nat) (hk : 40000 ≤ k) : fairleadlaw10_awake.f k = some true := by
  unfold fairleadlaw10_awake.f
  rw [parse_is _ k hk, Option.bind_some]
  have e : PARSE ⟨#[100, 101, 102, 97, 117, 108, 116, 32, 107, 105, 108, 108, 59, 32, 97, 108, 108, 111, 119, 32, 114, 101, 97, 100, 44, 32, 119, 114, 105, 116, 101, 59, 32, 101, 114, 114, 110, 111, 32, 49, 51, 32, 111, 112, 101, 110, 32, 119, 104, 101, 110, 32, 97, 114, 103, 49, 32, 38, 32, 51, 32, 33, 61, 32, 48, 59]⟩ = (1, 0, [⟨⟨8, 0⟩, [⟨#[114, 101, 97, 100]⟩, ⟨#[119, 114, 105, 116, 101]⟩], []⟩, ⟨⟨4, 13⟩, [⟨#[111, 112, 101, 110]⟩], [⟨1, 2, 3, 0⟩]⟩], 0, -1) := by kernel_rfl
  rw [e]
  rfl
/-- A token without its place. -/
def st (t : S39) : S39 := ⟨t.f0, 0, t.f2, t.f3⟩
structure RuleOk (x : S44) : Prop where
  names : 1 ≤ x.f1.length ∧ x.f1.length ≤ 16
  conds : x.f2.length ≤ 8
theorem names_le {ns : List ByteArray} {ts : List S39} {ns' : List ByteArray} {r : List S39} (h : namesP ns ts = .ok (ns', r)) (hn : ns.length ≤ 16) : 1 ≤ ns'.length ∧ ns'.length ≤ 16 := by
  induction ns, ts using namesP.induct with
  | case1 ns => cases h
  | case2 ns t h1 h2 => simp only [namesP, h1, h2, if_true] at h; cases h
  | case3 ns t h1 h2 => simp only [namesP, h1, h2, if_true, if_false] at h; cases h
  | case4 ns t h1 => simp only [namesP, h1, if_false] at h; cases h
  | case5 ns t u r h1 h2 => simp only [namesP, h1, h2, if_true] at h; cases h
  | case6 ns t u r h1 h2 h3 ih => simp only [namesP, h1, h2, h3, if_true, if_false] at h; exact ih h (by simp; omega)
  | case7 ns t u r h1 h2 h3 => simp only [namesP, h1, h2, h3, if_true, if_false] at h; cases h; simp; omega
  | case8 ns t u r h1 => simp only [namesP, h1, if_false] at h; cases h
theorem conds_le (f : Nat) : ∀ {cs ts cs' r}, condsP f cs ts = .ok (cs', r) → cs.length ≤ 8 → cs'.length ≤ 8 := by
  induction f with
  | zero => intro cs ts cs' r h; cases h
  | succ f ih =>
    intro cs ts cs' r h hc
    simp only [condsP] at h
    cases hp : condP (decide ((cs.length : Int) < 8)) ts with
    | bad e q => rw [hp] at h; cases h
    | ok x =>
      obtain ⟨c, r1⟩ := x
      have hl := of_decide_eq_true (cond_len hp).2
      rw [hp, thenP_ok] at h
      cases r1 with
      | nil => cases h
      | cons u r1 =>
        simp only at h
        by_cases h2 : tkI u 1 ⟨#[97, 110, 100]⟩
        · rw [if_pos h2] at h; exact ih h (by simp; omega)
        · rw [if_neg h2] at h; cases h; simp; omega
theorem tail_shape {kd ar : Int} {ns : List ByteArray} {ts : List S39} {x : S44} {r : List S39} (h : tailP kd ar ns ts = .ok (x, r)) : x.f0 = ⟨kd, ar⟩ ∧ x.f1 = ns ∧ x.f2.length ≤ 8 := by
  unfold tailP at h
  cases hw : whenP ts with
  | bad e q => rw [hw] at h; cases h
  | ok y =>
    obtain ⟨cs, r1⟩ := y
    rw [hw, thenP_ok] at h
    cases hq : semiP r1 with
    | bad e q => simp only [hq] at h; cases h
    | ok z =>
      simp only [hq, thenP_ok] at h
      cases h
      refine ⟨rfl, rfl, ?_⟩
      cases ts with
      | nil => cases hw
      | cons t ts =>
        simp only [whenP] at hw
        by_cases h1 : tkI t 1 ⟨#[119, 104, 101, 110]⟩
        · rw [if_pos h1] at hw; exact conds_le _ hw (by simp)
        · rw [if_neg h1] at hw; cases hw; simp
theorem rule_ok {room : Bool} {ts : List S39} {x : S44} {r : List S39} (h : ruleP room ts = .ok (x, r)) : RuleOk x := by
  unfold ruleP at h
  cases hp : actP room ts with
  | bad e q => rw [hp] at h; cases h
  | ok y =>
    rw [hp, thenP_ok] at h
    cases hq : namesP [] y.2 with
    | bad e q => simp only [hq] at h; cases h
    | ok z =>
      obtain ⟨ns, r2⟩ := z
      simp only [hq, thenP_ok] at h
      obtain ⟨_, e2, e3⟩ := tail_shape h
      exact ⟨by rw [e2]; exact names_le hq (by simp), e3⟩
theorem rule_room {ts : List S39} {y : S44 × List S39} (h : ruleP false ts = .ok y) : False := by
  unfold ruleP at h
  cases ts with
  | nil => cases h
  | cons t ts =>
    simp only [actP] at h
    split at h
    · cases h
    · rw [if_pos trivial] at h; cases h
theorem rules_ok (f : Nat) : ∀ {rs ts out}, rulesP f rs ts = .ok out → rs.length ≤ 64 → (∀ x ∈ rs, RuleOk x) → out.length ≤ 64 ∧ ∀ x ∈ out, RuleOk x := by
  induction f with
  | zero => intro rs ts out h; cases h
  | succ f ih =>
    intro rs ts out h hl hr
    cases ts with
    | nil => cases h
    | cons t r =>
      simp only [rulesP] at h
      by_cases h4 : t.f0 = 4
      · rw [if_pos h4] at h; cases h; exact ⟨hl, hr⟩
      · rw [if_neg h4] at h
        cases hp : ruleP (decide ((rs.length : Int) < 64)) (t :: r) with
        | bad e q => rw [hp] at h; cases h
        | ok y =>
          obtain ⟨x, r1⟩ := y
          have hlt : rs.length < 64 := by
            by_cases hlt : (rs.length : Int) < 64
            · omega
            · rw [decide_eq_false hlt] at hp; exact (rule_room hp).elim
          rw [hp, thenP_ok] at h
          refine ih h (by simp; omega) (fun z hz => ?_)
          rcases List.mem_append.1 hz with hz | hz
          · exact hr z hz
          · rw [List.mem_singleton.1 hz]; exact rule_ok hp
theorem parse_ok {ts : List S39} {x : Int × Int × List S44} (h : parseP ts = .ok x) : x.2.2.length ≤ 64 ∧ ∀ y ∈ x.2.2, RuleOk y := by
  cases ts with
  | nil => cases h
  | cons t r =>
    simp only [parseP] at h
    split at h
    · cases hp : actP true r with
      | bad e q => rw [hp] at h; cases h
      | ok a =>
        rw [hp, thenP_ok] at h
        cases hq : semiP a.2 with
        | bad e q => simp only [hq] at h; cases h
        | ok r1 =>
          simp only [hq, thenP_ok] at h
          cases hs : rulesP (r1.length + 1) [] r1 with
          | bad e q => rw [hs] at h; cases h
          | ok rs =>
            rw [hs, thenP_ok] at h
            cases h
            exact rules_ok _ hs (by simp) (by simp)
    · cases h
theorem PARSE_ok (s : ByteArray) : (PARSE s).2.2.1.length ≤ 64 ∧ ∀ y ∈ (PARSE s).2.2.1, RuleOk y := by
  unfold PARSE
  split
  · cases h : parseP (ALL s).1 with
    | bad e q => simp
    | ok x => exact parse_ok h
  · simp
def Er (e : Int) : Prop := e = 4 ∨ e = 6 ∨ e = 7
theorem thenP_er {α β : Type} {p : PRes α} {f : α → PRes β} {e q : Int} (h : thenP p f = .bad e q) : p = .bad e q ∨ ∃ a, p = .ok a ∧ f a = .bad e q := by
  cases p with
  | bad e' q' =>
    have h' : (PRes.bad e' q' : PRes β) = .bad e q := h
    cases h'
    exact .inl rfl
  | ok a => exact .inr ⟨a, rfl, h⟩
theorem act_er {room : Bool} {ts : List S39} {e q : Int} (h : actP room ts = .bad e q) : Er e := by
  unfold Er
  cases ts with
  | nil => cases h; simp
  | cons t r =>
    simp only [actP] at h
    split at h
    · cases h; simp
    · split at h
      · cases h; simp
      · split at h
        · cases h
        · cases r with
          | nil => cases h; simp
          | cons u r =>
            simp only at h
            split at h
            · cases h; simp
            · split at h
              · cases h
              · cases h; simp
theorem must_er {k : Int} {ts : List S39} {e q : Int} (h : mustP k ts = .bad e q) : Er e := by
  unfold Er
  cases ts with
  | nil => cases h; simp
  | cons t r =>
    simp only [mustP] at h
    split at h
    · cases h
    · cases h; simp
theorem rest_er {ts : List S39} {a m e q : Int} (h : restP ts a m = .bad e q) : Er e := by
  unfold restP at h
  rcases thenP_er h with h | ⟨x, _, h⟩
  · unfold Er
    cases ts with
    | nil => cases h; simp
    | cons t r =>
      simp only [opP] at h
      split at h
      · cases h; simp
      · cases h
  · rcases thenP_er h with h | ⟨y, _, h⟩
    · exact must_er h
    · cases h
theorem cond_er {room : Bool} {ts : List S39} {e q : Int} (h : condP room ts = .bad e q) : Er e := by
  cases ts with
  | nil => cases h; simp [Er]
  | cons t r =>
    simp only [condP] at h
    split at h
    · split at h
      · cases h; simp [Er]
      · cases r with
        | nil => cases h; simp [Er]
        | cons u r =>
          simp only at h
          split at h
          · rcases thenP_er h with h | ⟨y, _, h⟩
            · exact must_er h
            · exact rest_er h
          · exact rest_er h
    · cases h; simp [Er]
theorem conds_er (f : Nat) : ∀ {cs ts e q}, condsP f cs ts = .bad e q → Er e := by
  induction f with
  | zero => intro cs ts e q h; cases h; simp [Er]
  | succ f ih =>
    intro cs ts e q h
    simp only [condsP] at h
    rcases thenP_er h with h | ⟨x, _, h⟩
    · exact cond_er h
    · split at h
      · cases h; simp [Er]
      · split at h
        · exact ih h
        · cases h
theorem names_er {ns : List ByteArray} {ts : List S39} {e q : Int} (h : namesP ns ts = .bad e q) : Er e := by
  induction ns, ts using namesP.induct with
  | case1 ns => cases h; simp [Er]
  | case2 ns t h1 h2 => simp only [namesP, h1, h2, if_true] at h; cases h; simp [Er]
  | case3 ns t h1 h2 => simp only [namesP, h1, h2, if_true, if_false] at h; cases h; simp [Er]
  | case4 ns t h1 => simp only [namesP, h1, if_false] at h; cases h; simp [Er]
  | case5 ns t u r h1 h2 => simp only [namesP, h1, h2, if_true] at h; cases h; simp [Er]
  | case6 ns t u r h1 h2 h3 ih => simp only [namesP, h1, h2, h3, if_true, if_false] at h; exact ih h
  | case7 ns t u r h1 h2 h3 => simp only [namesP, h1, h2, h3, if_true, if_false] at h; cases h
  | case8 ns t u r h1 => simp only [namesP, h1, if_false] at h; cases h; simp [Er]
theorem semi_er {ts : List S39} {e q : Int} (h : semiP ts = .bad e q) : Er e := by
  cases ts with
  | nil => cases h; simp [Er]
  | cons t r =>
    simp only [semiP] at h
    split at h
    · cases h
    · cases h; simp [Er]
theorem rule_er {room : Bool} {ts : List S39} {e q : Int} (h : ruleP room ts = .bad e q) : Er e := by
  unfold ruleP at h
  rcases thenP_er h with h | ⟨x, _, h⟩
  · exact act_er h
  · rcases thenP_er h with h | ⟨y, _, h⟩
    · exact names_er h
    · unfold tailP at h
      rcases thenP_er h with h | ⟨z, _, h⟩
      · generalize y.2 = ts at h
        cases ts with
        | nil => cases h; simp [Er]
        | cons t r =>
          simp only [whenP] at h
          split at h
          · exact conds_er _ h
          · cases h
      · rcases thenP_er h with h | ⟨w, _, h⟩
        · exact semi_er h
        · cases h
theorem rules_er (f : Nat) : ∀ {rs ts e q}, rulesP f rs ts = .bad e q → Er e := by
  induction f with
  | zero => intro rs ts e q h; cases h; simp [Er]
  | succ f ih =>
    intro rs ts e q h
    cases ts with
    | nil => cases h; simp [Er]
    | cons t r =>
      simp only [rulesP] at h
      split at h
      · cases h
      · rcases thenP_er h with h | ⟨x, _, h⟩
        · exact rule_er h
        · exact ih h
theorem parse_er {ts : List S39} {e q : Int} (h : parseP ts = .bad e q) : Er e := by
  cases ts with
  | nil => cases h; simp [Er]
  | cons t r =>
    simp only [parseP] at h
    split at h
    · rcases thenP_er h with h | ⟨x, _, h⟩
      · exact act_er h
      · rcases thenP_er h with h | ⟨y, _, h⟩
        · exact semi_er h
        · rcases thenP_er h with h | ⟨z, _, h⟩
          · exact rules_er _ h
          · cases h
    · cases h; simp [Er]
/-- A text without a fault is read. -/
theorem PARSE_read (s : ByteArray) (h : (PARSE s).2.2.2.1 = 0) : (ALL s).2.1 = 0 ∧ ∃ x, parseP (ALL s).1 = .ok x ∧ PARSE s = (x.1, x.2.1, x.2.2, 0, -1) := by
  unfold PARSE at h ⊢
  by_cases h0 : (ALL s).2.1 = 0
  · rw [if_pos h0] at h ⊢
    refine ⟨h0, ?_⟩
    cases hp : parseP (ALL s).1 with
    | ok x => exact ⟨x, rfl, rfl⟩
    | bad e q =>
      rw [hp] at h
      have := parse_er hp
      unfold Er at this
      exact absurd (show e = 0 from h) (by omega)
  · rw [if_neg h0] at h; exact absurd h h0
end Go.Proofs.Ytfahchgglapglaa.Pure
