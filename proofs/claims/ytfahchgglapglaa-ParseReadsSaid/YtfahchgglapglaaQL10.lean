/- Layer 10 (parse), plain: the rules of tokens, as a function of lists. -/
import Derived.Test.YtfahchgglapglaaQMx0
import Derived.Test.YtfahchgglapglaaQMx5
import Derived.Test.YtfahchgglapglaaQMx10
import Derived.Test.YtfahchgglapglaaQAid
import Derived.Test.YtfahchgglapglaaQM09
import Derived.Test.YtfahchgglapglaaQM09b
import Derived.Test.YtfahchgglapglaaQM09d
import Derived.Test.YtfahchgglapglaaQM09e
namespace Go.Proofs.Ytfahchgglapglaa.Pure
open Go Go.RowKit Go.Proofs.Ytfahchgglapglaa.M Go.Proofs.Ytfahchgglapglaa.Aid Go.Proofs.YtfahchgglapglaaW.PrintWords Go.Proofs.YtfahchgglapglaaW.PrintLast Go.Proofs.YtfahchgglapglaaW.PrintMore
set_option linter.unusedVariables false
set_option linter.unusedSimpArgs false
-- NEEDS parse_Parse.f parse_kind.f lex_All.f
-- IMPORT M09
-- IMPORT M09b
-- IMPORT M09d
-- IMPORT M09e
def thenP {α β : Type} (p : PRes α) (f : α → PRes β) : PRes β := match p with
  | .bad e q => .bad e q
  | .ok a => f a
theorem thenP_ok {α β : Type} (a : α) (f : α → PRes β) : thenP (.ok a) f = f a := rfl
theorem thenP_bad {α β : Type} (e q : Int) (f : α → PRes β) : thenP (.bad e q) f = .bad e q := rfl
def tkI (t : S39) (k : Int) (s : ByteArray) : Prop := t.f0 = k ∧ t.f2 = s
instance (t : S39) (k : Int) (s : ByteArray) : Decidable (tkI t k s) := by unfold tkI; exact inferInstance
theorem toList_is (s : ByteArray) (l : List UInt8) : s.toList = l ↔ s = ⟨l.toArray⟩ := by
  rw [ByteArray.toList_eq]
  constructor
  · intro h; cases s; subst h; simp
  · intro h; subst h; simp
theorem text_eq {a b : ByteArray} (h : a.toList = b.toList) : a = b := by
  rw [toList_is, ByteArray.toList_eq] at h
  rw [h]
theorem tkX {t : S39} {k : Int} {s : ByteArray} (h : tkI t k s) : t.f0 = k ∧ t.f2.toList = s.toList := ⟨h.1, by rw [h.2]⟩
theorem tkN {t : S39} {k : Int} {s : ByteArray} (h : ¬ tkI t k s) : ¬ (t.f0 = k ∧ t.f2.toList = s.toList) := fun e => h ⟨e.1, text_eq e.2⟩
/-- Tokens to the end: the last one alone is the end's. -/
def Good : List S39 → Prop
  | [] => False
  | t :: r => (r = [] ∧ t.f0 = 4) ∨ (t.f0 ≠ 4 ∧ Good r)
theorem Good.tail {t : S39} {r : List S39} (h : Good (t :: r)) (ht : t.f0 ≠ 4) : Good r := by
  rcases h with ⟨_, h⟩ | ⟨_, h⟩
  · exact absurd h ht
  · exact h
theorem Good.ne {r : List S39} (h : Good r) : ∃ t r', r = t :: r' := by
  cases r with
  | nil => exact absurd h id
  | cons t r => exact ⟨t, r, rfl⟩
/-- The head of what is left. -/
structure AtP (L : List S39) (n : Nat) (t : S39) (r : List S39) : Prop where
  rd : rd_T39 L n = t
  lo : 0 ≤ (n : Int) ∧ (n : Int) < (L.length : Int)
  w : wrap64 ((n : Int) + 1) = ((n + 1 : Nat) : Int)
  tl : L.drop (n + 1) = r
theorem at_p {L : List S39} {n : Nat} {t : S39} {r : List S39} (h : L.drop n = t :: r) (hz : L.length ≤ 100000) : AtP L n t r := by
  obtain ⟨h1, h2, h3⟩ := rd_at h
  exact ⟨h1, ⟨by omega, by omega⟩, by rw [w64_id (by omega) (by omega)]; omega, h3⟩
def Link {α β : Type} (L : List S39) (mk : α → Int → β) (p : PRes (α × List S39)) (q : Option (PRes β)) : Prop := match p with
  | .bad e a => q = some (.bad e a)
  | .ok (a, r) => ∃ m : Nat, q = some (.ok (mk a m)) ∧ L.drop m = r ∧ Good r
def mustP (k : Int) : List S39 → PRes (S39 × List S39)
  | [] => .bad 7 0
  | t :: r => if t.f0 = k then .ok (t, r) else .bad 7 t.f1
theorem must_is {L : List S39} {n : Nat} {ts : List S39} (h : L.drop n = ts) (hG : Good ts) (hz : L.length ≤ 100000) (k : Int) (hk : k ≠ 4) : Link L (fun t m => (t, m)) (mustP k ts) (parse_must.f L n k) := by
  obtain ⟨t, r, rfl⟩ := hG.ne
  have a := at_p h hz
  unfold parse_must.f
  simp only [mustP]
  rw [if_pos a.lo, a.rd]
  by_cases h1 : t.f0 = k
  · rw [if_pos h1, if_pos h1, a.w]
    exact ⟨n + 1, rfl, a.tl, hG.tail (by omega)⟩
  · rw [if_neg h1, if_neg h1]
    rfl
def kindP (s : ByteArray) : Int := if s = ⟨#[107, 105, 108, 108]⟩ then 1 else if s = ⟨#[116, 104, 114, 101, 97, 100]⟩ then 2 else if s = ⟨#[116, 114, 97, 112]⟩ then 3 else if s = ⟨#[101, 114, 114, 110, 111]⟩ then 4 else if s = ⟨#[110, 111, 116, 105, 102, 121]⟩ then 5 else if s = ⟨#[116, 114, 97, 99, 101]⟩ then 6 else if s = ⟨#[108, 111, 103]⟩ then 7 else if s = ⟨#[97, 108, 108, 111, 119]⟩ then 8 else 0
theorem kind_is (s : ByteArray) : parse_kind.f s = some (kindP s) := by
  unfold kindP parse_kind.f
  simp only [toList_is]
  repeat' split
  all_goals rfl
def actP (room : Bool) : List S39 → PRes ((Int × Int) × List S39)
  | [] => .bad 7 0
  | t :: r => if t.f0 ≠ 1 ∨ kindP t.f2 = 0 then .bad 7 t.f1 else if room = false then .bad 4 t.f1
    else if kindP t.f2 ≠ 3 ∧ kindP t.f2 ≠ 4 ∧ kindP t.f2 ≠ 6 then .ok ((kindP t.f2, 0), r)
    else match r with
      | [] => .bad 7 0
      | u :: r' => if u.f0 = 2 ∧ 65535 < u.f3 then .bad 6 u.f1 else if u.f0 = 2 then .ok ((kindP t.f2, wrap64 u.f3), r') else .bad 7 u.f1
theorem act_is {L : List S39} {n : Nat} {ts : List S39} (h : L.drop n = ts) (hG : Good ts) (hz : L.length ≤ 100000) (room : Bool) : Link L (fun a m => (a.1, a.2, m)) (actP room ts) (parse_act.f L n room) := by
  obtain ⟨t, r, rfl⟩ := hG.ne
  have a := at_p h hz
  unfold parse_act.f
  simp only [actP]
  rw [if_pos a.lo, a.rd, kind_is, Option.bind_some]
  by_cases h1 : t.f0 ≠ 1 ∨ kindP t.f2 = 0
  · rw [if_pos h1, if_pos h1]; rfl
  · have ht : t.f0 = 1 := Decidable.byContradiction fun e => h1 (.inl e)
    have hG1 := hG.tail (by omega)
    rw [if_neg h1, if_neg h1]
    by_cases h2 : room = false
    · rw [if_pos h2, if_pos h2]; rfl
    · rw [if_neg h2, if_neg h2]
      by_cases h3 : kindP t.f2 ≠ 3 ∧ kindP t.f2 ≠ 4 ∧ kindP t.f2 ≠ 6
      · rw [if_pos h3, if_pos h3, a.w]
        exact ⟨n + 1, rfl, a.tl, hG1⟩
      · rw [if_neg h3, if_neg h3]
        obtain ⟨u, r', rfl⟩ := hG1.ne
        have b := at_p a.tl hz
        rw [a.w, if_pos b.lo, b.rd]
        by_cases h4 : u.f0 = 2 ∧ 65535 < u.f3
        · rw [if_pos h4]; simp only [if_pos h4]; rfl
        · rw [if_neg h4]; simp only [if_neg h4]
          by_cases h5 : u.f0 = 2
          · rw [if_pos h5, b.w]; simp only [if_pos h5]
            exact ⟨n + 1 + 1, rfl, b.tl, hG1.tail (by omega)⟩
          · rw [if_neg h5]; simp only [if_neg h5]; rfl
def opN (t : S39) : Int := if tkI t 3 ⟨#[61, 61]⟩ then 1 else if tkI t 3 ⟨#[33, 61]⟩ then 2 else if tkI t 3 ⟨#[60]⟩ then 3 else if tkI t 3 ⟨#[60, 61]⟩ then 4 else if tkI t 3 ⟨#[62]⟩ then 5 else if tkI t 3 ⟨#[62, 61]⟩ then 6 else 0
def opP : List S39 → PRes (Int × List S39)
  | [] => .bad 7 0
  | t :: r => if opN t = 0 then .bad 7 t.f1 else .ok (opN t, r)
theorem opN_kind (t : S39) (h : opN t ≠ 0) : t.f0 = 3 := by
  unfold opN at h
  by_cases h0 : t.f0 = 3
  · exact h0
  · have : ∀ s, ¬ tkI t 3 s := fun s hs => h0 hs.1
    rw [if_neg (this _), if_neg (this _), if_neg (this _), if_neg (this _), if_neg (this _), if_neg (this _)] at h
    exact absurd rfl h
theorem op_is {L : List S39} {n : Nat} {ts : List S39} (h : L.drop n = ts) (hG : Good ts) (hz : L.length ≤ 100000) (k : Nat) (hk : 8 ≤ k) : Link L (fun o m => (o, m)) (opP ts) (parse_op.f k L n) := by
  obtain ⟨t, r, rfl⟩ := hG.ne
  have a := at_p h hz
  obtain ⟨k, rfl⟩ : ∃ m, k = m + 7 := ⟨k - 7, by omega⟩
  unfold parse_op.f
  simp only [opP]
  rw [if_pos a.lo]
  obtain ⟨SG, hSG⟩ : ∃ SG : List ByteArray, SG = [(⟨#[61, 61]⟩ : ByteArray), (⟨#[33, 61]⟩ : ByteArray), (⟨#[60]⟩ : ByteArray), (⟨#[60, 61]⟩ : ByteArray), (⟨#[62]⟩ : ByteArray), (⟨#[62, 61]⟩ : ByteArray)] := ⟨_, rfl⟩
  rw [← hSG]
  have st : ∀ (k i : Nat) (sg : ByteArray), i < 6 → rdOf ByteArray.empty SG i = sg → parse_op.l0 (k + 1) L n SG i = if tkI t 3 sg then some (.ok ((i : Int) + 1, ((n + 1 : Nat) : Int))) else parse_op.l0 k L n SG ((i + 1 : Nat) : Int) := by
    rintro k i sg hi rfl
    have hlen : (SG.length : Int) = 6 := by rw [hSG]; rfl
    rw [parse_op.l0.eq_2, if_pos (by omega), a.rd, a.w, w64_id (x := 1 + (i : Int)) (by omega) (by omega), w64_id (x := (i : Int) + 1) (by omega) (by omega), show (1 : Int) + i = (i : Int) + 1 by omega]
    by_cases hx : tkI t 3 (rdOf ByteArray.empty SG i)
    · rw [if_pos (tkX hx), if_pos hx]
    · rw [if_neg (tkN hx), if_neg hx]
      rfl
  have en : ∀ k, parse_op.l0 (k + 1) L n SG ((6 : Nat) : Int) = some (.bad 7 t.f1) := by
    intro k
    have hlen : (SG.length : Int) = 6 := by rw [hSG]; rfl
    rw [parse_op.l0.eq_2, if_neg (by omega), if_pos (by omega), a.rd]
  have e := st (k + 6) 0 ⟨#[61, 61]⟩ (by decide) (by rw [hSG]; rfl)
  rw [show ((0 : Nat) : Int) = 0 from rfl] at e
  rw [e, st (k + 5) 1 ⟨#[33, 61]⟩ (by decide) (by rw [hSG]; rfl), st (k + 4) 2 ⟨#[60]⟩ (by decide) (by rw [hSG]; rfl), st (k + 3) 3 ⟨#[60, 61]⟩ (by decide) (by rw [hSG]; rfl), st (k + 2) 4 ⟨#[62]⟩ (by decide) (by rw [hSG]; rfl), st (k + 1) 5 ⟨#[62, 61]⟩ (by decide) (by rw [hSG]; rfl), en k]
  have fin : ∀ o : Int, opN t = o → o ≠ 0 → Link L (fun o m => (o, m)) (if opN t = 0 then (.bad 7 t.f1 : PRes (Int × List S39)) else .ok (opN t, r)) (some (.ok (o, ((n + 1 : Nat) : Int)))) := by
    rintro o rfl h0
    rw [if_neg h0]
    exact ⟨n + 1, rfl, a.tl, hG.tail (by have := opN_kind t h0; omega)⟩
  by_cases h1 : tkI t 3 ⟨#[61, 61]⟩
  · rw [if_pos h1]
    exact fin _ (by unfold opN; rw [if_pos h1]; rfl) (by decide)
  rw [if_neg h1]
  by_cases h2 : tkI t 3 ⟨#[33, 61]⟩
  · rw [if_pos h2]
    exact fin _ (by unfold opN; rw [if_neg h1, if_pos h2]; rfl) (by decide)
  rw [if_neg h2]
  by_cases h3 : tkI t 3 ⟨#[60]⟩
  · rw [if_pos h3]
    exact fin _ (by unfold opN; rw [if_neg h1, if_neg h2, if_pos h3]; rfl) (by decide)
  rw [if_neg h3]
  by_cases h4 : tkI t 3 ⟨#[60, 61]⟩
  · rw [if_pos h4]
    exact fin _ (by unfold opN; rw [if_neg h1, if_neg h2, if_neg h3, if_pos h4]; rfl) (by decide)
  rw [if_neg h4]
  by_cases h5 : tkI t 3 ⟨#[62]⟩
  · rw [if_pos h5]
    exact fin _ (by unfold opN; rw [if_neg h1, if_neg h2, if_neg h3, if_neg h4, if_pos h5]; rfl) (by decide)
  rw [if_neg h5]
  by_cases h6 : tkI t 3 ⟨#[62, 61]⟩
  · rw [if_pos h6]
    exact fin _ (by unfold opN; rw [if_neg h1, if_neg h2, if_neg h3, if_neg h4, if_neg h5, if_pos h6]; rfl) (by decide)
  rw [if_neg h6, if_pos (show opN t = 0 by unfold opN; rw [if_neg h1, if_neg h2, if_neg h3, if_neg h4, if_neg h5, if_neg h6])]
  rfl
end Go.Proofs.Ytfahchgglapglaa.Pure
