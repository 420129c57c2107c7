/- The law ParseReads, as numbers and lists: what the printed functions say of it is true for every input that the row lets in. -/
import Derived.Test.YtfahchgglapglaaQMx22
import Derived.Test.YtfahchgglapglaaQAid
import Derived.Test.YtfahchgglapglaaQL10s
import Derived.Test.YtfahchgglapglaaQL10e
import Derived.Test.YtfahchgglapglaaQM09
import Derived.Test.YtfahchgglapglaaQM09b
import Derived.Test.YtfahchgglapglaaQM09d
import Derived.Test.YtfahchgglapglaaQM09e
import Derived.Test.YtfahchgglapglaaQL10
import Derived.Test.YtfahchgglapglaaQL10b
import Derived.Test.YtfahchgglapglaaQL10c
import Derived.Test.YtfahchgglapglaaQL10d
import Derived.Test.YtfahchgglapglaaQR09
namespace Go.Proofs.Ytfahchgglapglaa.Pure
open Go Go.RowKit Go.Proofs.Ytfahchgglapglaa.M Go.Proofs.Ytfahchgglapglaa.Aid Go.Proofs.YtfahchgglapglaaW.PrintWords Go.Proofs.YtfahchgglapglaaW.PrintLast Go.Proofs.YtfahchgglapglaaW.PrintMore
set_option linter.unusedVariables false
set_option linter.unusedSimpArgs false
-- IMPORT L10s
-- IMPORT L10e
-- IMPORT M09
-- IMPORT M09b
-- IMPORT M09d
-- IMPORT M09e
-- IMPORT L10
-- IMPORT L10b
-- IMPORT L10c
-- IMPORT L10d
-- IMPORT R09
def LinkR {α β : Type} (L : List S39) (mk : α → Int → Int → Int → β) (a : Int) (p : PRes (α × List S39)) (q : Option β) : Prop := match p with
  | .bad e z => e ≠ 0 ∧ ∃ x n, q = some (mk x n e z)
  | .ok (x, r) => ∃ m : Nat, q = some (mk x m 0 a) ∧ L.drop m = r ∧ Good r
theorem rkind_is (s : ByteArray) (k : Nat) (hk : 10 ≤ k) : fairleadref10_kind.f k s = some (kindP s) := by
  obtain ⟨k, rfl⟩ : ∃ m, k = m + 9 := ⟨k - 9, by omega⟩
  unfold fairleadref10_kind.f
  obtain ⟨SG, hSG⟩ : ∃ SG : List ByteArray, SG = [(⟨#[]⟩ : ByteArray), (⟨#[107, 105, 108, 108]⟩ : ByteArray), (⟨#[116, 104, 114, 101, 97, 100]⟩ : ByteArray), (⟨#[116, 114, 97, 112]⟩ : ByteArray), (⟨#[101, 114, 114, 110, 111]⟩ : ByteArray), (⟨#[110, 111, 116, 105, 102, 121]⟩ : ByteArray), (⟨#[116, 114, 97, 99, 101]⟩ : ByteArray), (⟨#[108, 111, 103]⟩ : ByteArray), (⟨#[97, 108, 108, 111, 119]⟩ : ByteArray)] := ⟨_, rfl⟩
  rw [← hSG]
  have hlen : (SG.length : Int) = 9 := by rw [hSG]; rfl
  have st : ∀ (k i : Nat) (sg : ByteArray), i < 9 → rdOf ByteArray.empty SG i = sg → fairleadref10_kind.l0 (k + 1) s SG i = if s = sg then some (i : Int) else fairleadref10_kind.l0 k s SG ((i + 1 : Nat) : Int) := by
    rintro k i sg hi rfl
    rw [fairleadref10_kind.l0.eq_2, if_pos (by omega), if_pos (by omega), w64_id (x := (i : Int) + 1) (by omega) (by omega)]
    by_cases hx : s = rdOf ByteArray.empty SG i
    · rw [if_pos hx, if_pos (by rw [← hx])]
    · rw [if_neg hx, if_neg (fun e => hx (text_eq e).symm)]
      rfl
  have en : ∀ k, fairleadref10_kind.l0 (k + 1) s SG ((9 : Nat) : Int) = some 0 := by
    intro k
    rw [fairleadref10_kind.l0.eq_2, if_neg (by omega)]
  have e := st (k + 8) 1 ⟨#[107, 105, 108, 108]⟩ (by decide) (by rw [hSG]; rfl)
  rw [show ((1 : Nat) : Int) = 1 from rfl] at e
  rw [e, st (k + 7) 2 ⟨#[116, 104, 114, 101, 97, 100]⟩ (by decide) (by rw [hSG]; rfl), st (k + 6) 3 ⟨#[116, 114, 97, 112]⟩ (by decide) (by rw [hSG]; rfl), st (k + 5) 4 ⟨#[101, 114, 114, 110, 111]⟩ (by decide) (by rw [hSG]; rfl), st (k + 4) 5 ⟨#[110, 111, 116, 105, 102, 121]⟩ (by decide) (by rw [hSG]; rfl), st (k + 3) 6 ⟨#[116, 114, 97, 99, 101]⟩ (by decide) (by rw [hSG]; rfl), st (k + 2) 7 ⟨#[108, 111, 103]⟩ (by decide) (by rw [hSG]; rfl), st (k + 1) 8 ⟨#[97, 108, 108, 111, 119]⟩ (by decide) (by rw [hSG]; rfl), en k]
  unfold kindP
  repeat' split
  all_goals rfl
theorem ris_t {L : List S39} {n : Nat} {t : S39} {r : List S39} (h : AtP L n t r) (e a kd : Int) (s : ByteArray) : fairleadref10_Place_is.f L n e a kd s = some (decide (tkI t kd s), (n : Int), e, a) := by
  unfold fairleadref10_Place_is.f
  rw [if_pos h.lo.1, if_pos h.lo.2, h.rd]
  by_cases hk : t.f0 = kd
  · rw [if_pos hk]
    by_cases ht : t.f2 = s
    · rw [decide_eq_true (show tkI t kd s from ⟨hk, ht⟩), beq_iff_eq.2 (by rw [ht])]
    · rw [decide_eq_false (show ¬ tkI t kd s from fun e => ht e.2), beq_eq_false_iff_ne.2 (fun e => ht (text_eq e))]
  · rw [if_neg hk, decide_eq_false (show ¬ tkI t kd s from fun e => hk e.1)]
theorem rfail_t {L : List S39} {n : Nat} {t : S39} {r : List S39} (h : AtP L n t r) (a er : Int) : fairleadref10_Place_fail.f L n 0 a er = some ((n : Int), er, t.f1) := by
  unfold fairleadref10_Place_fail.f
  rw [if_pos rfl, if_pos h.lo, h.rd]
def mkN (v n e a : Int) : Int × Int × Int × Int := (v, n, e, a)
def mkA (x : Int × Int) (n e a : Int) : Int × Int × Int × Int × Int := (x.1, x.2, n, e, a)
def mkC4 (c : S46) (n e a : Int) : Int × Int × Int × Int × Int × Int × Int := (c.f0, c.f1, c.f2, c.f3, n, e, a)
def mkR4 (x : S44) (n e a : Int) : S44 × Int × Int × Int := (x, n, e, a)
def numP (ts : List S39) : PRes (Int × List S39) := thenP (mustP 2 ts) fun y => .ok (y.1.f3, y.2)
theorem rnum_t {L : List S39} {n : Nat} {ts : List S39} (h : L.drop n = ts) (hG : Good ts) (hz : L.length ≤ 100000) (a : Int) : LinkR L mkN a (numP ts) (fairleadref10_Place_number.f L n 0 a) := by
  obtain ⟨t, r, rfl⟩ := hG.ne
  have b := at_p h hz
  unfold numP fairleadref10_Place_number.f
  simp only [mustP]
  rw [if_pos b.lo, b.rd]
  by_cases h1 : t.f0 = 2
  · rw [if_pos h1, if_pos h1, b.w, thenP_ok]
    exact ⟨n + 1, rfl, b.tl, hG.tail (by omega)⟩
  · rw [if_neg h1, if_neg h1, rfail_t b, thenP_bad]
    exact ⟨by decide, 0, n, rfl⟩
theorem ract_t {L : List S39} {n : Nat} {ts : List S39} (h : L.drop n = ts) (hG : Good ts) (hz : L.length ≤ 100000) (a : Int) (k : Nat) (hk : 10 ≤ k) : LinkR L mkA a (actP true ts) (fairleadref10_Place_act.f k L n 0 a) := by
  obtain ⟨t, r, rfl⟩ := hG.ne
  have b := at_p h hz
  unfold fairleadref10_Place_act.f
  simp only [actP]
  rw [if_pos b.lo, b.rd, rkind_is _ k hk, Option.bind_some]
  by_cases h1 : t.f0 ≠ 1 ∨ kindP t.f2 = 0
  · rw [if_pos h1, if_pos h1, rfail_t b, Option.bind_some]
    exact ⟨by decide, (0, 0), n, rfl⟩
  · have ht : t.f0 = 1 := Decidable.byContradiction fun e => h1 (.inl e)
    have hG1 := hG.tail (by omega)
    rw [if_neg h1, if_neg h1, if_neg (by decide)]
    by_cases h3 : kindP t.f2 ≠ 3 ∧ kindP t.f2 ≠ 4 ∧ kindP t.f2 ≠ 6
    · rw [if_pos h3, if_pos h3, b.w]
      exact ⟨n + 1, rfl, b.tl, hG1⟩
    · rw [if_neg h3, if_neg h3]
      obtain ⟨u, r', rfl⟩ := hG1.ne
      have c := at_p b.tl hz
      rw [b.w, if_pos c.lo, c.rd]
      by_cases h4 : u.f0 = 2 ∧ 65535 < u.f3
      · rw [if_pos h4, rfail_t c, Option.bind_some]; simp only [if_pos h4]
        exact ⟨by decide, (0, 0), _, rfl⟩
      · rw [if_neg h4]; simp only [if_neg h4]
        have hn := rnum_t b.tl hG1 hz a
        unfold numP at hn
        simp only [mustP] at hn
        by_cases h5 : u.f0 = 2
        · rw [if_pos h5, thenP_ok] at hn
          obtain ⟨m, e1, e2, e3⟩ := hn
          rw [e1]; simp only [if_pos h5]
          exact ⟨m, rfl, e2, e3⟩
        · rw [if_neg h5, thenP_bad] at hn
          obtain ⟨_, x, m, e1⟩ := hn
          rw [e1]; simp only [if_neg h5]
          exact ⟨by decide, (kindP t.f2, wrap64 x), m, rfl⟩
theorem rop_t {L : List S39} {n : Nat} {ts : List S39} (h : L.drop n = ts) (hG : Good ts) (hz : L.length ≤ 100000) (a : Int) (k : Nat) (hk : 8 ≤ k) : LinkR L mkN a (opP ts) (fairleadref10_Place_op.f k L n 0 a) := by
  obtain ⟨t, r, rfl⟩ := hG.ne
  have b := at_p h hz
  obtain ⟨k, rfl⟩ : ∃ m, k = m + 7 := ⟨k - 7, by omega⟩
  unfold fairleadref10_Place_op.f
  simp only [opP]
  obtain ⟨SG, hSG⟩ : ∃ SG : List ByteArray, SG = [(⟨#[]⟩ : ByteArray), (⟨#[61, 61]⟩ : ByteArray), (⟨#[33, 61]⟩ : ByteArray), (⟨#[60]⟩ : ByteArray), (⟨#[60, 61]⟩ : ByteArray), (⟨#[62]⟩ : ByteArray), (⟨#[62, 61]⟩ : ByteArray)] := ⟨_, rfl⟩
  rw [← hSG]
  have hlen : (SG.length : Int) = 7 := by rw [hSG]; rfl
  have st : ∀ (k i : Nat) (sg : ByteArray), i < 7 → rdOf ByteArray.empty SG i = sg → fairleadref10_Place_op.l0 (k + 1) SG i L n 0 a = if tkI t 3 sg then some ((i : Int), ((n + 1 : Nat) : Int), 0, a) else fairleadref10_Place_op.l0 k SG ((i + 1 : Nat) : Int) L n 0 a := by
    rintro k i sg hi rfl
    rw [fairleadref10_Place_op.l0.eq_2, if_pos (by omega), if_pos (by omega), ris_t b, Option.bind_some]
    by_cases hx : tkI t 3 (rdOf ByteArray.empty SG i)
    · rw [if_pos hx]
      simp only [decide_eq_true hx]
      rw [if_pos trivial, b.w]
    · rw [if_neg hx]
      simp only [decide_eq_false hx]
      rw [if_neg (by decide), w64_id (x := (i : Int) + 1) (by omega) (by omega)]
      rfl
  have en : ∀ k, fairleadref10_Place_op.l0 (k + 1) SG ((7 : Nat) : Int) L n 0 a = some (0, (n : Int), 7, t.f1) := by
    intro k
    rw [fairleadref10_Place_op.l0.eq_2, if_neg (by omega), rfail_t b, Option.bind_some]
  have e := st (k + 6) 1 ⟨#[61, 61]⟩ (by decide) (by rw [hSG]; rfl)
  rw [show ((1 : Nat) : Int) = 1 from rfl] at e
  rw [e, st (k + 5) 2 ⟨#[33, 61]⟩ (by decide) (by rw [hSG]; rfl), st (k + 4) 3 ⟨#[60]⟩ (by decide) (by rw [hSG]; rfl), st (k + 3) 4 ⟨#[60, 61]⟩ (by decide) (by rw [hSG]; rfl), st (k + 2) 5 ⟨#[62]⟩ (by decide) (by rw [hSG]; rfl), st (k + 1) 6 ⟨#[62, 61]⟩ (by decide) (by rw [hSG]; rfl), en k]
  have fin : ∀ o : Int, opN t = o → o ≠ 0 → LinkR L mkN a (if opN t = 0 then (.bad 7 t.f1 : PRes (Int × List S39)) else .ok (opN t, r)) (some (o, ((n + 1 : Nat) : Int), 0, a)) := by
    rintro o rfl h0
    rw [if_neg h0]
    exact ⟨n + 1, rfl, b.tl, hG.tail (by have := opN_kind t h0; omega)⟩
  by_cases h1 : tkI t 3 ⟨#[61, 61]⟩
  · rw [if_pos h1]
    exact fin _ (by unfold opN; rw [if_pos h1]) (by decide)
  rw [if_neg h1]
  by_cases h2 : tkI t 3 ⟨#[33, 61]⟩
  · rw [if_pos h2]
    exact fin _ (by unfold opN; rw [if_neg h1, if_pos h2]; rfl) (by decide)
  rw [if_neg h2]
  by_cases h3 : tkI t 3 ⟨#[60]⟩
  · rw [if_pos h3]
    exact fin _ (by unfold opN; rw [if_neg h1, if_neg h2, if_pos h3]; rfl) (by decide)
  rw [if_neg h3]
  by_cases h4 : tkI t 3 ⟨#[60, 61]⟩
  · rw [if_pos h4]
    exact fin _ (by unfold opN; rw [if_neg h1, if_neg h2, if_neg h3, if_pos h4]; rfl) (by decide)
  rw [if_neg h4]
  by_cases h5 : tkI t 3 ⟨#[62]⟩
  · rw [if_pos h5]
    exact fin _ (by unfold opN; rw [if_neg h1, if_neg h2, if_neg h3, if_neg h4, if_pos h5]; rfl) (by decide)
  rw [if_neg h5]
  by_cases h6 : tkI t 3 ⟨#[62, 61]⟩
  · rw [if_pos h6]
    exact fin _ (by unfold opN; rw [if_neg h1, if_neg h2, if_neg h3, if_neg h4, if_neg h5, if_pos h6]; rfl) (by decide)
  rw [if_neg h6, if_pos (show opN t = 0 by unfold opN; rw [if_neg h1, if_neg h2, if_neg h3, if_neg h4, if_neg h5, if_neg h6])]
  exact ⟨by decide, 0, n, rfl⟩
theorem rrest_t {L : List S39} {n : Nat} {ts : List S39} (h : L.drop n = ts) (hG : Good ts) (hz : L.length ≤ 100000) (a arg m : Int) (k : Nat) (hk : 8 ≤ k) : LinkR L mkC4 a (restP ts arg m) (fairleadref10_Place_cond.rest k L n a arg m) := by
  unfold restP fairleadref10_Place_cond.rest
  have ho := rop_t h hG hz a k hk
  cases hp : opP ts with
  | bad e q =>
    rw [hp] at ho
    obtain ⟨he, x, n1, e1⟩ := ho
    rw [e1, thenP_bad]
    refine ⟨he, ⟨arg, x, m, 0⟩, n1, ?_⟩
    show (if e = 0 then _ else _) = _
    rw [if_neg he]; rfl
  | ok x =>
    obtain ⟨o, r⟩ := x
    rw [hp] at ho
    obtain ⟨n1, e1, h1, hG1⟩ := ho
    rw [e1, thenP_ok]
    have hm := rnum_t h1 hG1 hz a
    unfold numP at hm
    simp only [Option.bind_some, mkN, if_true]
    cases hq : mustP 2 r with
    | bad e q =>
      rw [hq, thenP_bad] at hm
      obtain ⟨he, x, n2, e2⟩ := hm
      rw [e2]
      exact ⟨he, ⟨arg, o, m, x⟩, n2, rfl⟩
    | ok y =>
      obtain ⟨t, r2⟩ := y
      rw [hq, thenP_ok] at hm
      obtain ⟨n2, e2, h2, hG2⟩ := hm
      rw [e2, thenP_ok]
      exact ⟨n2, rfl, h2, hG2⟩
theorem rcond_t {L : List S39} {n : Nat} {ts : List S39} (h : L.drop n = ts) (hG : Good ts) (hz : L.length ≤ 100000) (a c : Int) (room : Bool) (hr : room = decide (c ≤ 8)) (k : Nat) (hk : 8 ≤ k) : LinkR L mkC4 a (condP room ts) (fairleadref10_Place_cond.f k L n 0 a c) := by
  obtain ⟨t, r, rfl⟩ := hG.ne
  have b := at_p h hz
  unfold fairleadref10_Place_cond.f
  simp only [condP]
  rw [if_pos (show True ∧ _ from ⟨trivial, b.lo⟩), b.rd]
  by_cases h1 : argP t
  · rw [if_pos h1]
    have h1' := h1
    unfold argP at h1'
    rw [if_pos (show t.f0 = 1 ∧ t.f2.size = 4 ∧ (t.f2.extract 0 3).toList = [97, 114, 103] ∧ _ from ⟨h1'.1, h1'.2.1, (toList_is _ _).2 h1'.2.2.1, h1'.2.2.2⟩)]
    by_cases h2 : 8 < c
    · rw [if_pos h2, if_pos (show room = false by rw [hr, decide_eq_false (by omega)]), rfail_t b]
      exact ⟨by decide, ⟨0, 0, 0, 0⟩, n, rfl⟩
    · rw [if_neg h2, if_neg (show ¬ room = false by rw [hr, decide_eq_true (by omega)]; decide)]
      have hG1 := hG.tail (by have := h1'.1; omega)
      obtain ⟨u, r', rfl⟩ := hG1.ne
      have d := at_p b.tl hz
      rw [b.w, if_pos d.lo, d.rd]
      by_cases h3 : tkI u 3 ⟨#[38]⟩
      · rw [if_pos (tkX h3)]
        simp only [if_pos h3]
        have hG2 := hG1.tail (by have := h3.1; omega)
        rw [d.w]
        have hm := rnum_t d.tl hG2 hz a
        unfold numP at hm
        cases hq : mustP 2 r' with
        | bad e q =>
          rw [hq, thenP_bad] at hm
          obtain ⟨he, x, n2, e2⟩ := hm
          rw [e2, thenP_bad]
          refine ⟨he, ⟨bt t.f2 3 - 48, 0, x, 0⟩, n2, ?_⟩
          show (if e = 0 then _ else _) = _
          rw [if_neg he]; rfl
        | ok y =>
          obtain ⟨v, r2⟩ := y
          rw [hq, thenP_ok] at hm
          obtain ⟨n2, e2, h2, hG2⟩ := hm
          rw [e2, thenP_ok]
          simp only [Option.bind_some, mkN, if_true]
          exact rrest_t h2 hG2 hz a _ _ k hk
      · rw [if_neg (tkN h3)]
        simp only [if_neg h3]
        exact rrest_t b.tl hG1 hz a _ _ k hk
  · rw [if_neg h1, if_neg (fun e => h1 ⟨e.1, e.2.1, (toList_is _ _).1 e.2.2.1, e.2.2.2⟩), rfail_t b]
    exact ⟨by decide, ⟨0, 0, 0, 0⟩, n, rfl⟩
theorem rsign_t {L : List S39} {n : Nat} {t : S39} {r : List S39} (h : AtP L n t r) (a : Int) (s : ByteArray) : fairleadref10_Place_sign.f L n 0 a s = if tkI t 3 s then some (((n + 1 : Nat) : Int), 0, a) else some ((n : Int), 7, t.f1) := by
  unfold fairleadref10_Place_sign.f
  rw [ris_t h, Option.bind_some]
  by_cases hx : tkI t 3 s
  · rw [if_pos hx]
    simp only [decide_eq_true hx]
    rw [if_pos trivial, h.w]
  · rw [if_neg hx]
    simp only [decide_eq_false hx]
    rw [if_neg (by decide), rfail_t h, Option.bind_some]
theorem re_t {L : List S39} {n : Nat} {ts : List S39} (h : L.drop n = ts) (hG : Good ts) (hz : L.length ≤ 100000) (a kd ar : Int) (ns : List ByteArray) (cs : List S46) : LinkR L mkR4 a (closeP kd ar ns cs ts) (fairleadref10_Place_rule.e L n a kd ar ns cs) := by
  obtain ⟨t, r, rfl⟩ := hG.ne
  have b := at_p h hz
  unfold closeP fairleadref10_Place_rule.e
  simp only [semiP]
  rw [rsign_t b]
  by_cases h1 : tkI t 3 ⟨#[59]⟩
  · rw [if_pos h1, if_pos h1, thenP_ok]
    exact ⟨n + 1, rfl, b.tl, hG.tail (by have := h1.1; omega)⟩
  · rw [if_neg h1, if_neg h1, thenP_bad]
    exact ⟨by decide, ⟨⟨kd, ar⟩, ns, cs⟩, n, rfl⟩
theorem rconds_t {L : List S39} (hz : L.length ≤ 100000) (kd ar : Int) (ns : List ByteArray) (f : Nat) : ∀ (k n : Nat) (ts : List S39) (cs : List S46) (a : Int), L.drop n = ts → Good ts → ts.length ≤ f → f + 10 < k → cs.length ≤ 8 →
    LinkR L mkR4 a (thenP (condsP f cs ts) fun y => closeP kd ar ns y.1 y.2) ((fairleadref10_Place_cond.f k L n 0 a (wrap64 ((cs.length : Int) + 1))).bind fun c => fairleadref10_Place_rule.l1 k L c.2.2.2.2.1 c.2.2.2.2.2.1 c.2.2.2.2.2.2 kd ar ns (cs ++ [⟨c.1, c.2.1, c.2.2.1, c.2.2.2.1⟩])) := by
  induction f with
  | zero =>
    intro k n ts cs a h hG hl
    obtain ⟨t, r, rfl⟩ := hG.ne
    simp at hl
  | succ f ih =>
    intro k n ts cs a h hG hl hk hcs
    have hc := rcond_t h hG hz a (wrap64 ((cs.length : Int) + 1)) (decide ((cs.length : Int) < 8)) (by rw [w64_id (by omega) (by omega)]; exact decide_eq_decide.2 (by omega)) k (by omega)
    obtain ⟨k, rfl⟩ : ∃ m, k = m + 1 := ⟨k - 1, by omega⟩
    simp only [condsP]
    cases hp : condP (decide ((cs.length : Int) < 8)) ts with
    | bad e q =>
      rw [hp] at hc
      obtain ⟨he, x, n1, e1⟩ := hc
      rw [e1, thenP_bad, thenP_bad]
      refine ⟨he, ⟨⟨kd, ar⟩, ns, cs ++ [x]⟩, n1, ?_⟩
      show fairleadref10_Place_rule.l1 (k + 1) L n1 e q kd ar ns _ = _
      rw [fairleadref10_Place_rule.l1.eq_2, if_neg he]
      rfl
    | ok x =>
      obtain ⟨c, r⟩ := x
      rw [hp] at hc
      obtain ⟨n1, e1, h1, hG1⟩ := hc
      have hlen := cond_len hp
      have hlt := of_decide_eq_true hlen.2
      rw [e1, thenP_ok]
      obtain ⟨u, r', rfl⟩ := hG1.ne
      have b := at_p h1 hz
      show LinkR L mkR4 a (thenP (if tkI u 1 ⟨#[97, 110, 100]⟩ then condsP f (cs ++ [c]) r' else .ok (cs ++ [c], u :: r')) fun y => closeP kd ar ns y.1 y.2) (fairleadref10_Place_rule.l1 (k + 1) L n1 0 a kd ar ns (cs ++ [c]))
      rw [fairleadref10_Place_rule.l1.eq_2, if_pos rfl, if_pos b.lo, b.rd]
      by_cases h2 : tkI u 1 ⟨#[97, 110, 100]⟩
      · rw [if_pos (tkX h2), if_pos h2, b.w, if_pos (by simp; omega)]
        exact ih k (n1 + 1) r' (cs ++ [c]) a b.tl (hG1.tail (by have := h2.1; omega)) (by have := hlen.1; simp only [List.length_cons] at this; omega) (by omega) (by simp; omega)
      · rw [if_neg (tkN h2), if_neg h2, thenP_ok]
        exact re_t h1 hG1 hz a kd ar ns _
theorem rtail_t {L : List S39} {n : Nat} {ts : List S39} (h : L.drop n = ts) (hG : Good ts) (hz : L.length ≤ 100000) (a kd ar : Int) (ns : List ByteArray) (k : Nat) (hk : ts.length + 10 < k) : LinkR L mkR4 a (tailP kd ar ns ts) (fairleadref10_Place_rule.g k L n a kd ar ns) := by
  obtain ⟨t, r, rfl⟩ := hG.ne
  have b := at_p h hz
  unfold tailP fairleadref10_Place_rule.g
  simp only [whenP]
  rw [if_pos b.lo, b.rd]
  by_cases h1 : tkI t 1 ⟨#[119, 104, 101, 110]⟩
  · rw [if_pos h1, if_pos (tkX h1), b.w]
    have hh := rconds_t hz kd ar ns r.length k (n + 1) r [] a b.tl (hG.tail (by have := h1.1; omega)) (Nat.le_refl _) (by simp only [List.length_cons] at hk; omega) (by decide)
    rw [show wrap64 ((([] : List S46).length : Int) + 1) = 1 from (w64_id (x := (([] : List S46).length : Int) + 1) (by simp) (by simp)).trans (by simp)] at hh
    exact hh
  · rw [if_neg h1, if_neg (tkN h1), thenP_ok]
    exact re_t h hG hz a kd ar ns []
theorem rnames_t {L : List S39} (hz : L.length ≤ 100000) (kd ar : Int) (f : Nat) : ∀ (k n : Nat) (ts : List S39) (ns : List ByteArray) (a : Int), L.drop n = ts → Good ts → ts.length ≤ f → f + 12 < k → ns.length ≤ 16 →
    LinkR L mkR4 a (thenP (namesP ns ts) fun y => tailP kd ar y.1 y.2) (fairleadref10_Place_rule.l0 k L n a kd ar ns) := by
  induction f with
  | zero =>
    intro k n ts ns a h hG hl
    obtain ⟨t, r, rfl⟩ := hG.ne
    simp at hl
  | succ f ih =>
    intro k n ts ns a h hG hl hk hns
    obtain ⟨k, rfl⟩ : ∃ m, k = m + 1 := ⟨k - 1, by omega⟩
    obtain ⟨t, r, rfl⟩ := hG.ne
    have b := at_p h hz
    rw [fairleadref10_Place_rule.l0.eq_2, if_pos b.lo, b.rd]
    by_cases h1 : t.f0 = 1
    · have hG1 := hG.tail (by omega)
      obtain ⟨u, r', rfl⟩ := hG1.ne
      have d := at_p b.tl hz
      simp only [namesP]
      rw [if_pos h1, if_pos h1]
      by_cases h2 : ns.length = 16
      · rw [if_pos h2, if_pos h2, rfail_t b, thenP_bad]
        exact ⟨by decide, ⟨⟨kd, ar⟩, ns, []⟩, n, rfl⟩
      · rw [if_neg h2, if_neg h2, b.w, if_pos (show ns.length < 1000 ∧ _ from ⟨by omega, d.lo⟩), d.rd]
        by_cases h3 : tkI u 3 ⟨#[44]⟩
        · rw [if_pos (tkX h3), if_pos h3, d.w]
          exact ih k (n + 1 + 1) r' (ns ++ [t.f2]) a d.tl (hG1.tail (by have := h3.1; omega)) (by simp only [List.length_cons] at hl; omega) (by omega) (by simp; omega)
        · rw [if_neg (tkN h3), if_neg h3, thenP_ok]
          exact rtail_t b.tl hG1 hz a kd ar _ k (by simp only [List.length_cons] at hl ⊢; omega)
    · rw [if_neg h1, rfail_t b]
      have : namesP ns (t :: r) = .bad 7 t.f1 := by
        cases r with
        | nil => simp only [namesP]; rw [if_neg h1]
        | cons u r => simp only [namesP]; rw [if_neg h1]
      rw [this, thenP_bad]
      exact ⟨by decide, ⟨⟨kd, ar⟩, ns, []⟩, n, rfl⟩
theorem kindP_in (s : ByteArray) : 0 ≤ kindP s := by
  unfold kindP
  repeat' split
  all_goals decide
theorem rrule_t {L : List S39} {n : Nat} {ts : List S39} (h : L.drop n = ts) (hG : Good ts) (hz : L.length ≤ 100000) (a c : Int) (room : Bool) (hr : room = decide (c ≤ 64)) (k : Nat) (hk : ts.length + 12 < k) : LinkR L mkR4 a (ruleP room ts) (fairleadref10_Place_rule.f k L n 0 a c) := by
  unfold ruleP fairleadref10_Place_rule.f
  obtain ⟨t, r, rfl⟩ := hG.ne
  have b := at_p h hz
  have ha := ract_t h hG hz a k (by omega)
  have hki := kindP_in t.f2
  rw [if_pos (show (0 : Int) = 0 ∧ _ from ⟨rfl, b.lo⟩), b.rd, rkind_is _ k (by omega), Option.bind_some]
  by_cases hc : 64 < c ∧ t.f0 = 1 ∧ 0 < kindP t.f2
  · rw [if_pos hc, rfail_t b]
    simp only [actP]
    rw [if_neg (by omega), if_pos (show room = false by rw [hr, decide_eq_false (by omega)]), thenP_bad]
    exact ⟨by decide, ⟨⟨0, 0⟩, [], []⟩, n, rfl⟩
  · rw [if_neg hc]
    have hact : actP room (t :: r) = actP true (t :: r) := by
      simp only [actP]
      by_cases h1 : t.f0 ≠ 1 ∨ kindP t.f2 = 0
      · rw [if_pos h1, if_pos h1]
      · rw [show room = true by rw [hr, decide_eq_true (by omega)]]
    rw [hact]
    cases hp : actP true (t :: r) with
    | bad e q =>
      rw [hp] at ha
      obtain ⟨he, x, n1, e1⟩ := ha
      rw [e1, thenP_bad]
      refine ⟨he, ⟨⟨x.1, x.2⟩, [], []⟩, n1, ?_⟩
      show (if e = 0 then _ else _) = _
      rw [if_neg he]; rfl
    | ok x =>
      obtain ⟨⟨kd, ar⟩, r⟩ := x
      rw [hp] at ha
      obtain ⟨n1, e1, h1, hG1⟩ := ha
      rw [e1, thenP_ok]
      simp only [Option.bind_some, mkA, if_true]
      exact rnames_t hz kd ar r.length k n1 r [] a h1 hG1 (Nat.le_refl _) (by have := act_len hp; omega) (by decide)
theorem rrules_t {L : List S39} (hz : L.length ≤ 100000) (f : Nat) : ∀ (k n : Nat) (ts : List S39) (rs : List S44) (a : Int), L.drop n = ts → Good ts → ts.length < f → f + 14 < k → rs.length ≤ 64 →
    (match rulesP f rs ts with | .ok rs' => fairleadref10_Parse.l0 k L n 0 a rs = some (rs', 0, a) | .bad e q => e ≠ 0 ∧ ∃ rs', fairleadref10_Parse.l0 k L n 0 a rs = some (rs', e, q)) := by
  induction f with
  | zero => intro k n ts rs a h hG hl; omega
  | succ f ih =>
    intro k n ts rs a h hG hl hk hrs
    obtain ⟨k, rfl⟩ : ∃ m, k = m + 1 := ⟨k - 1, by omega⟩
    obtain ⟨t, r, rfl⟩ := hG.ne
    have b := at_p h hz
    rw [fairleadref10_Parse.l0.eq_2, if_pos rfl, if_pos b.lo, b.rd]
    simp only [rulesP]
    by_cases h1 : t.f0 = 4
    · rw [if_pos h1, if_pos h1]
    · rw [if_neg h1, if_neg h1, if_pos (by omega)]
      have hr := rrule_t h hG hz a (wrap64 ((rs.length : Int) + 1)) (decide ((rs.length : Int) < 64)) (by rw [w64_id (by omega) (by omega)]; exact decide_eq_decide.2 (by omega)) k (by omega)
      cases hp : ruleP (decide ((rs.length : Int) < 64)) (t :: r) with
      | bad e q =>
        rw [hp] at hr
        obtain ⟨he, x, n1, e1⟩ := hr
        rw [e1, thenP_bad, Option.bind_some]
        refine ⟨he, rs ++ [x], ?_⟩
        obtain ⟨k, rfl⟩ : ∃ m, k = m + 1 := ⟨k - 1, by omega⟩
        show fairleadref10_Parse.l0 (k + 1) L n1 e q _ = _
        rw [fairleadref10_Parse.l0.eq_2, if_neg he]
        rfl
      | ok y =>
        obtain ⟨x, r1⟩ := y
        rw [hp] at hr
        obtain ⟨n1, e1, h2, hG2⟩ := hr
        rw [e1, thenP_ok, Option.bind_some]
        have hl2 := rule_len hp
        have hlt : rs.length < 64 := by
          by_cases hlt : (rs.length : Int) < 64
          · omega
          · rw [decide_eq_false hlt] at hp
            unfold ruleP at hp
            simp only [actP] at hp
            split at hp
            · cases hp
            · rw [if_pos trivial] at hp; cases hp
        exact ih k n1 r1 (rs ++ [x]) a h2 hG2 (by simp only [List.length_cons] at hl hl2 ⊢; omega) (by omega) (by simp; omega)
theorem rparse_is (s : ByteArray) (k : Nat) (hk : 40000 ≤ k) : fairleadref10_Parse.f k s = some (PARSE s) := by
  unfold fairleadref10_Parse.f PARSE
  rw [rall_is s k hk, Option.bind_some]
  by_cases h0 : (ALL s).2.1 = 0
  · rw [if_pos h0, if_pos h0]
    have hG := (ALL_good s h0).1
    have hl := ALL_len s
    obtain ⟨L, hL⟩ : ∃ L, L = (ALL s).1 := ⟨_, rfl⟩
    rw [← hL] at hG hl ⊢
    have hz : L.length ≤ 100000 := by omega
    obtain ⟨t, r, rfl⟩ := hG.ne
    have b := at_p (L := t :: r) (n := 0) rfl hz
    unfold fairleadref10_Parse.g
    simp only [parseP]
    have r0 : rd_T39 (t :: r) 0 = t := b.rd
    have lo0 : (0 : Int) ≤ 0 ∧ (0 : Int) < ((t :: r).length : Int) := b.lo
    rw [if_pos lo0, r0]
    by_cases h1 : tkI t 1 ⟨#[100, 101, 102, 97, 117, 108, 116]⟩
    · rw [if_pos (tkX h1), if_pos h1]
      have hG1 := hG.tail (by have := h1.1; omega)
      have ha := ract_t b.tl hG1 hz 0 k (by omega)
      rw [show ((0 + 1 : Nat) : Int) = 1 from rfl] at ha
      cases hp : actP true r with
      | bad e q =>
        rw [hp] at ha
        obtain ⟨he, x, n1, e1⟩ := ha
        rw [e1, thenP_bad, Option.bind_some]
        show (if e = 0 then _ else _) = _
        rw [if_neg he]; rfl
      | ok x =>
        obtain ⟨⟨kd, ar⟩, r1⟩ := x
        rw [hp] at ha
        obtain ⟨n1, e2, h2, hG2⟩ := ha
        rw [e2, thenP_ok, Option.bind_some]
        have hl1 := act_len hp
        obtain ⟨u, r', rfl⟩ := hG2.ne
        have d := at_p h2 hz
        simp only [mkA, if_true]
        rw [rsign_t d]
        simp only [semiP]
        by_cases h3 : tkI u 3 ⟨#[59]⟩
        · rw [if_pos h3, if_pos h3, Option.bind_some, thenP_ok]
          have hR := rrules_t hz (r'.length + 1) k (n1 + 1) r' [] 0 d.tl (hG2.tail (by have := h3.1; omega)) (by omega) (by simp only [List.length_cons] at hl hl1; omega) (by simp)
          cases hq : rulesP (r'.length + 1) [] r' with
          | bad e q =>
            rw [hq] at hR
            obtain ⟨he, rs', e3⟩ := hR
            show (fairleadref10_Parse.l0 k (t :: r) ((n1 + 1 : Nat) : Int) 0 0 []).bind _ = _
            rw [e3, Option.bind_some, thenP_bad]
            show (if e = 0 then _ else _) = _
            rw [if_neg he]
          | ok rs =>
            rw [hq] at hR
            show (fairleadref10_Parse.l0 k (t :: r) ((n1 + 1 : Nat) : Int) 0 0 []).bind _ = _
            rw [show fairleadref10_Parse.l0 k (t :: r) ((n1 + 1 : Nat) : Int) 0 0 [] = some (rs, 0, 0) from hR, Option.bind_some, thenP_ok]
            rfl
        · rw [if_neg h3, if_neg h3, Option.bind_some, thenP_bad]
          show (fairleadref10_Parse.l0 k (t :: r) (n1 : Int) 7 u.f1 []).bind _ = _
          obtain ⟨k, rfl⟩ : ∃ m, k = m + 1 := ⟨k - 1, by omega⟩
          rw [fairleadref10_Parse.l0.eq_2, if_neg (by decide)]
          rfl
    · rw [if_neg (tkN h1), if_neg h1]
  · rw [if_neg h0, if_neg h0]
theorem ParseReads : fairleadlaw10_ParseReads.Pure := by
  intro s _
  refine ⟨60000 + 0, ?_⟩
  generalize hK : 60000 + 0 = K
  have hk : 60000 ≤ K := by omega
  unfold fairleadlaw10_ParseReads.f
  rw [awake10 K (by omega), Option.bind_some]
  by_cases h : (s.size : Int) > 8300
  · rw [if_pos h]
  · rw [if_neg h, parse_is s K (by omega), Option.bind_some, rparse_is s K (by omega), Option.bind_some]
    have hb := PARSE_ok s
    rw [same10 _ _ _ (by omega) hb.2 K (by omega), Option.bind_some]
    simp
end Go.Proofs.Ytfahchgglapglaa.Pure
