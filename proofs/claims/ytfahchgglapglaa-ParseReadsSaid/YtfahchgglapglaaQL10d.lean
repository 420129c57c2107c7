/- Layer 10 (parse), plain: the program's parse of any text; that it is awake. -/
import Derived.Test.YtfahchgglapglaaQMx0
import Derived.Test.YtfahchgglapglaaQMx5
import Derived.Test.YtfahchgglapglaaQMx10
import Derived.Test.YtfahchgglapglaaQMx11
import Derived.Test.YtfahchgglapglaaQAid
import Derived.Test.YtfahchgglapglaaQM09
import Derived.Test.YtfahchgglapglaaQM09b
import Derived.Test.YtfahchgglapglaaQM09d
import Derived.Test.YtfahchgglapglaaQM09e
import Derived.Test.YtfahchgglapglaaQL10
import Derived.Test.YtfahchgglapglaaQL10b
import Derived.Test.YtfahchgglapglaaQL10c
namespace Go.Proofs.Ytfahchgglapglaa.Pure
open Go Go.RowKit Go.Proofs.Ytfahchgglapglaa.M Go.Proofs.Ytfahchgglapglaa.Aid Go.Proofs.YtfahchgglapglaaW.PrintWords Go.Proofs.YtfahchgglapglaaW.PrintLast Go.Proofs.YtfahchgglapglaaW.PrintMore
set_option linter.unusedVariables false
set_option linter.unusedSimpArgs false
-- NEEDS parse_Parse.f parse_kind.f lex_All.f fairleadlaw10_awake.f
-- IMPORT M09
-- IMPORT M09b
-- IMPORT M09d
-- IMPORT M09e
-- IMPORT L10
-- IMPORT L10b
-- IMPORT L10c
theorem lies_good {s : ByteArray} : ∀ (l : List S39) (last : Nat), lies s last l → Good l
  | [], _, h => h
  | t :: r, last, h => by
    rcases h with ⟨h1, h2, _⟩ | ⟨h1, p, n, _, _, _, _, _, h4, _, h5⟩
    · exact .inl ⟨h1, by rw [h2]⟩
    · exact .inr ⟨h4, lies_good r _ h5⟩
theorem ALL_good (s : ByteArray) (h : (ALL s).2.1 = 0) : Good (ALL s).1 ∧ lies s 0 (ALL s).1 := by
  unfold ALL at h ⊢
  by_cases hz : 8192 < s.size
  · rw [if_pos hz] at h; exact absurd h (by decide)
  · rw [if_neg hz] at h ⊢
    unfold fin at h ⊢
    by_cases h2 : (allP s (s.size + 1) (blankL (ch s) false)).2.1 = 0
    · rw [if_pos h2, List.nil_append]
      have hb := blankL_le (ch s) false
      rw [ch_len] at hb
      have hl := allP_lies s (s.size + 1) (blankL (ch s) false) 0 (Nat.zero_le _) hb (by omega) h2
      exact ⟨lies_good _ _ hl, hl⟩
    · rw [if_neg h2] at h; exact absurd h h2
theorem parse_g_is {L : List S39} (hz : L.length ≤ 100000) (hG : Good L) (k : Nat) (hk : L.length + 40 < k) : parse_Parse.g k L = some (parseP L) := by
  obtain ⟨t, r, rfl⟩ := hG.ne
  have a := at_p (L := t :: r) (n := 0) rfl hz
  unfold parse_Parse.g
  simp only [parseP]
  have r0 : rd_T39 (t :: r) 0 = t := a.rd
  have lo0 : (0 : Int) ≤ 0 ∧ (0 : Int) < ((t :: r).length : Int) := a.lo
  rw [if_pos lo0, r0]
  by_cases h1 : tkI t 1 ⟨#[100, 101, 102, 97, 117, 108, 116]⟩
  · rw [if_pos (tkX h1), if_pos h1]
    have hG1 := hG.tail (by have := h1.1; omega)
    have ha := act_is a.tl hG1 hz true
    have e1 : wrap64 (0 + 1) = ((0 + 1 : Nat) : Int) := a.w
    rw [e1]
    cases hp : actP true r with
    | bad e q =>
      rw [hp] at ha
      rw [show parse_act.f (t :: r) _ true = _ from ha, Option.bind_some]
      rfl
    | ok x =>
      obtain ⟨⟨kd, ar⟩, r1⟩ := x
      rw [hp] at ha
      obtain ⟨n1, e2, h2, hG2⟩ := ha
      rw [e2, Option.bind_some, thenP_ok]
      have hl1 := act_len hp
      obtain ⟨u, r', rfl⟩ := hG2.ne
      have b := at_p h2 hz
      simp only [semiP]
      unfold parse_Parse.h
      refine Eq.trans (congrArg (fun z => Option.bind z _) (if_pos b.lo)) ?_
      rw [b.rd]
      by_cases h3 : tkI u 3 ⟨#[59]⟩
      · rw [if_pos (tkX h3), if_pos h3, b.w, thenP_ok, rules_is hz (r'.length + 1) k (n1 + 1) r' [] b.tl (hG2.tail (by have := h3.1; omega)) (by omega) (by simp only [List.length_cons] at hl1 hk ⊢; omega) (by simp; omega) (by simp), Option.bind_some]
        cases rulesP (r'.length + 1) [] r' with
        | bad e q => rfl
        | ok rs => rfl
      · rw [if_neg (tkN h3), if_neg h3]
        rfl
  · rw [if_neg (tkN h1), if_neg h1]
theorem parse_is (s : ByteArray) (k : Nat) (hk : 40000 ≤ k) : parse_Parse.f k s = some (PARSE s) := by
  unfold parse_Parse.f PARSE
  rw [all_is s k hk, Option.bind_some]
  by_cases h : (ALL s).2.1 = 0
  · have hl := ALL_len s
    simp only [h, if_true]
    rw [parse_g_is (by omega) (ALL_good s h).1 k (by omega), Option.bind_some]
    cases parseP (ALL s).1 with
    | bad e q => rfl
    | ok x => rfl
  · simp only [h, if_false]
theorem awake10 (k : Nat) (hk : 40000 ≤ k) : fairleadlaw10_awake.f k = some true := by
  unfold fairleadlaw10_awake.f
  rw [parse_is _ k hk, Option.bind_some]
  have e : PARSE ⟨#[100, 101, 102, 97, 117, 108, 116, 32, 107, 105, 108, 108, 59, 32, 97, 108, 108, 111, 119, 32, 114, 101, 97, 100, 44, 32, 119, 114, 105, 116, 101, 59, 32, 101, 114, 114, 110, 111, 32, 49, 51, 32, 111, 112, 101, 110, 32, 119, 104, 101, 110, 32, 97, 114, 103, 49, 32, 38, 32, 51, 32, 33, 61, 32, 48, 59]⟩ = (1, 0, [⟨⟨8, 0⟩, [⟨#[114, 101, 97, 100]⟩, ⟨#[119, 114, 105, 116, 101]⟩], []⟩, ⟨⟨4, 13⟩, [⟨#[111, 112, 101, 110]⟩], [⟨1, 2, 3, 0⟩]⟩], 0, -1) := by kernel_rfl
  rw [e]
  rfl
end Go.Proofs.Ytfahchgglapglaa.Pure
