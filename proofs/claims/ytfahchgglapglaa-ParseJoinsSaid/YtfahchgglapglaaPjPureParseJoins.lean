/- The law ParseJoins, as numbers and lists: what the printed functions say of it is true for every input that the row lets in. -/
import Derived.Test.YtfahchgglapglaaPjMx17
import Derived.Test.YtfahchgglapglaaPjAid
import Derived.Test.YtfahchgglapglaaPjK09
import Derived.Test.YtfahchgglapglaaPjK10
import Derived.Test.YtfahchgglapglaaPjL10f
import Derived.Test.YtfahchgglapglaaPjM09g
import Derived.Test.YtfahchgglapglaaPjM09h
namespace Go.Proofs.Ytfahchgglapglaa.Pure
open Go Go.RowKit Go.Proofs.Ytfahchgglapglaa.M Go.Proofs.Ytfahchgglapglaa.Aid Go.Proofs.YtfahchgglapglaaW.PrintWords Go.Proofs.YtfahchgglapglaaW.PrintLast Go.Proofs.YtfahchgglapglaaW.PrintMore
set_option linter.unusedVariables false
set_option linter.unusedSimpArgs false
-- IMPORT K09
-- IMPORT K10
-- IMPORT L10f
-- IMPORT M09g
-- IMPORT M09h
theorem run_trans {ts : List S39} {xs : List S44} {r : List S39} (h : Run ts xs r) {ys : List S44} {r' : List S39} (k : Run r ys r') : Run ts (xs ++ ys) r' := by
  induction h with
  | nil ts => exact k
  | cons h hr _ ih => exact .cons h hr (ih k)
theorem map_shift (n : Nat) (l : List S39) : (l.map (shift n)).map kd3 = l.map kd3 := by
  rw [List.map_map]; rfl
theorem one_semi (r : List Int) : ONE (59 :: r) = (3, 1, 0, 0) := by
  have hs : signL (59 :: r) = 1 := by unfold signL; rw [rd_cons, if_neg (by decide), if_pos (by decide)]
  unfold ONE
  rw [rd_cons, if_neg (by decide), if_neg (by decide), hs, if_pos (by decide)]
theorem allP_next (s : ByteArray) (f p : Nat) (kd w : Int) (n : Nat) (hp : p < s.size) (h : ONE ((ch s).drop p) = (kd, n, w, 0)) (q : Nat) (hq : p + n + blankL ((ch s).drop (p + n)) false = q) (h0 : (allP s (f + 1) p).2.1 = 0) : (allP s f q).2.1 = 0 ∧ (allP s (f + 1) p).1 = TOK s p :: (allP s f q).1 := by
  subst hq
  rw [allP.eq_2 s p f, if_pos hp, h, if_pos rfl] at h0 ⊢
  simp only at h0 ⊢
  by_cases hr : (allP s f (p + n + blankL ((ch s).drop (p + n)) false)).2.1 = 0
  · rw [if_pos hr]; exact ⟨hr, rfl⟩
  · rw [if_neg hr] at h0; exact absurd h0 hr
def DEFS : ByteArray := ⟨#[100, 101, 102, 97, 117, 108, 116, 32, 108, 111, 103, 59]⟩
/-- The tokens behind 'default log;'. -/
theorem ALL_def (b : ByteArray) (hz : b.size ≤ 4000) (h0 : (ALL (DEFS ++ b)).2.1 = 0) : (ALL b).2.1 = 0 ∧ (ALL (DEFS ++ b)).1.map kd3 = ((⟨1, 0, ⟨#[100, 101, 102, 97, 117, 108, 116]⟩, 0⟩ : S39) :: ⟨1, 8, ⟨#[108, 111, 103]⟩, 0⟩ :: ⟨3, 11, ⟨#[59]⟩, 0⟩ :: (ALL b).1).map kd3 := by
  obtain ⟨_, a1, a2, a3⟩ := ALL_from (DEFS ++ b) h0
  have hs : (DEFS ++ b).size = 12 + b.size := by rw [ByteArray.size_append]; rfl
  have hc : ch (DEFS ++ b) = 100 :: 101 :: 102 :: 97 :: 117 :: 108 :: 116 :: 32 :: 108 :: 111 :: 103 :: 59 :: ch b := by rw [ch_app]; rfl
  have hbl : blankL (ch (DEFS ++ b)) false = 0 := by rw [hc]; simp only [blankL]; rw [if_neg (by decide), if_neg (by decide)]
  have o1 : ONE ((ch (DEFS ++ b)).drop 0) = (1, 7, 0, 0) := by
    rw [hc]
    exact one_cut [100, 101, 102, 97, 117, 108, 116] (by decide +kernel) (by simp) 32 (108 :: 111 :: 103 :: 59 :: ch b) (by decide) (by decide)
  have k1 : blankL ((ch (DEFS ++ b)).drop 7) false = 1 := by
    rw [hc]
    show blankL (32 :: 108 :: 111 :: 103 :: 59 :: ch b) false = 1
    simp only [blankL]; rw [if_neg (by decide), if_pos (by decide), if_neg (by decide), if_neg (by decide)]
  have o2 : ONE ((ch (DEFS ++ b)).drop 8) = (1, 3, 0, 0) := by
    rw [hc]
    exact one_cut [108, 111, 103] (by decide +kernel) (by simp) 59 (ch b) (by decide) (by decide)
  have k2 : blankL ((ch (DEFS ++ b)).drop 11) false = 0 := by
    rw [hc]
    show blankL (59 :: ch b) false = 0
    simp only [blankL]; rw [if_neg (by decide), if_neg (by decide)]
  have o3 : ONE ((ch (DEFS ++ b)).drop 11) = (3, 1, 0, 0) := by rw [hc]; exact one_semi (ch b)
  have k3 : (ch (DEFS ++ b)).drop 12 = ch b := by rw [hc]; rfl
  have bb := blankL_le (ch b) false
  rw [ch_len] at bb
  have hsh := allP_shift DEFS b (b.size + 10) (blankL (ch b) false) bb (by omega)
  rw [show DEFS.size = 12 from rfl] at hsh
  have hfu := allP_fuel b (b.size + 10) (b.size + 1) (blankL (ch b) false) bb (by omega) (by omega)
  rw [hfu] at hsh
  rw [hbl, hs, show 12 + b.size + 1 = (b.size + 10) + 1 + 1 + 1 by omega] at a1 a2
  obtain ⟨p1, p2⟩ := allP_next (DEFS ++ b) (b.size + 10 + 1 + 1) 0 1 0 7 (by omega) o1 8 (by rw [show (0 + 7 : Nat) = 7 from rfl, k1]) a1
  obtain ⟨p3, p4⟩ := allP_next (DEFS ++ b) (b.size + 10 + 1) 8 1 0 3 (by omega) o2 11 (by rw [show (8 + 3 : Nat) = 11 from rfl, k2]) p1
  obtain ⟨p5, p6⟩ := allP_next (DEFS ++ b) (b.size + 10) 11 3 0 1 (by omega) o3 (12 + blankL (ch b) false) (by rw [show (11 + 1 : Nat) = 12 from rfl, k3]) p3
  rw [hsh] at p5 p6
  have hb0 : (allP b (b.size + 1) (blankL (ch b) false)).2.1 = 0 := p5
  replace a2 : (ALL (DEFS ++ b)).1 = TOK (DEFS ++ b) 0 :: TOK (DEFS ++ b) 8 :: TOK (DEFS ++ b) 11 :: (allP b (b.size + 1) (blankL (ch b) false)).1.map (shift 12) := by
    rw [a2, p2, p4, p6]
    unfold shiftR
    rfl
  have hA : ALL b = ((allP b (b.size + 1) (blankL (ch b) false)).1, 0, -1) := by
    refine ALL_of b (by omega) _ ?_
    have := (allP_ok b (b.size + 1) (blankL (ch b) false) bb (by omega) hb0).1
    exact Prod.ext rfl (Prod.ext hb0 this)
  refine ⟨by rw [hA], ?_⟩
  rw [a2, hA]
  simp only [List.map_cons, map_shift]
  have t1 : kd3 (TOK (DEFS ++ b) 0) = (1, ⟨#[100, 101, 102, 97, 117, 108, 116]⟩, 0) := by
    unfold kd3 TOK
    rw [o1]
    have : (DEFS ++ b).extract 0 (0 + 7) = ⟨#[100, 101, 102, 97, 117, 108, 116]⟩ := by apply ch_inj; rw [ch_extract, hc]; rfl
    simp only [this]
  have t2 : kd3 (TOK (DEFS ++ b) 8) = (1, ⟨#[108, 111, 103]⟩, 0) := by
    unfold kd3 TOK
    rw [o2]
    have : (DEFS ++ b).extract 8 (8 + 3) = ⟨#[108, 111, 103]⟩ := by apply ch_inj; rw [ch_extract, hc]; rfl
    simp only [this]
  have t3 : kd3 (TOK (DEFS ++ b) 11) = (3, ⟨#[59]⟩, 0) := by
    unfold kd3 TOK
    rw [o3]
    have : (DEFS ++ b).extract 11 (11 + 1) = ⟨#[59]⟩ := by apply ch_inj; rw [ch_extract, hc]; rfl
    simp only [this]
  rw [t1, t2, t3]
  generalize (allP b (b.size + 1) (blankL (ch b) false)).1 = X
  rfl
/-- The rules of both texts. -/
theorem joined (a b : ByteArray) (hz : a.size ≤ 3000 ∧ b.size ≤ 3000) (ha : (PARSE a).2.2.2.1 = 0) (hb : (PARSE (DEFS ++ b)).2.2.2.1 = 0) :
    (64 < (PARSE a).2.2.1.length + (PARSE (DEFS ++ b)).2.2.1.length → (PARSE ((a ++ ⟨#[10]⟩) ++ b)).2.2.2.1 = 4) ∧
    ((PARSE a).2.2.1.length + (PARSE (DEFS ++ b)).2.2.1.length ≤ 64 → (PARSE ((a ++ ⟨#[10]⟩) ++ b)).1 = (PARSE a).1 ∧ (PARSE ((a ++ ⟨#[10]⟩) ++ b)).2.1 = (PARSE a).2.1 ∧ (PARSE ((a ++ ⟨#[10]⟩) ++ b)).2.2.1 = (PARSE a).2.2.1 ++ (PARSE (DEFS ++ b)).2.2.1 ∧ (PARSE ((a ++ ⟨#[10]⟩) ++ b)).2.2.2.1 = 0) := by
  obtain ⟨a0, x, ax, ae⟩ := PARSE_read a ha
  obtain ⟨d0, y, dy, de⟩ := PARSE_read (DEFS ++ b) hb
  obtain ⟨b0, bt_⟩ := ALL_def b (by omega) d0
  have hu := ALL_app a b (by omega) a0 b0
  -- the second one's rules
  have hact : ∀ r : List S39, actP true ((⟨1, 8, ⟨#[108, 111, 103]⟩, 0⟩ : S39) :: r) = .ok ((7, 0), r) := by
    intro r
    simp only [actP]
    have e : kindP ⟨#[108, 111, 103]⟩ = 7 := by decide +kernel
    rw [e, if_neg (by decide), if_neg (by decide), if_pos (by decide)]
  have hlike := parse_like bt_
  rw [dy] at hlike
  have hP : parseP ((⟨1, 0, ⟨#[100, 101, 102, 97, 117, 108, 116]⟩, 0⟩ : S39) :: ⟨1, 8, ⟨#[108, 111, 103]⟩, 0⟩ :: ⟨3, 11, ⟨#[59]⟩, 0⟩ :: (ALL b).1) = thenP (rulesP ((ALL b).1.length + 1) [] (ALL b).1) fun rs => .ok (7, 0, rs) := by
    simp only [parseP]
    rw [if_pos (show tkI _ 1 ⟨#[100, 101, 102, 97, 117, 108, 116]⟩ from ⟨rfl, rfl⟩), hact, thenP_ok]
    simp only [semiP]
    rw [if_pos (show semiT _ from ⟨rfl, rfl⟩), thenP_ok]
  rw [hP] at hlike
  have hr : rulesP ((ALL b).1.length + 1) [] (ALL b).1 = .ok y.2.2 := by
    cases h : rulesP ((ALL b).1.length + 1) [] (ALL b).1 with
    | bad e q => rw [h] at hlike; cases hlike
    | ok rs =>
      rw [h, thenP_ok] at hlike
      have : y = (7, 0, rs) := by injection hlike
      rw [this]
  obtain ⟨ys, e, r, hrun, he, hys⟩ := rules_run _ hr
  rw [List.nil_append] at hys
  subst hys
  -- the first one's
  obtain ⟨⟨d, ca, s, cr, e1, h1, hd, hs, he1, hact1, hrun1, _⟩, hle⟩ := parsed_of (ALL_good a a0).1 ax
  have hdl : (ALL a).1.dropLast = d :: (ca ++ s :: cr) := by
    rw [h1, show d :: (ca ++ s :: (cr ++ [e1])) = (d :: (ca ++ s :: cr)) ++ [e1] by simp, List.dropLast_concat]
  have hk : (ALL ((a ++ ⟨#[10]⟩) ++ b)).1.map kd3 = (d :: (ca ++ s :: (cr ++ (ALL b).1))).map kd3 := by
    rw [hu, hdl]
    simp only [List.map_append, List.map_cons, map_shift, List.append_assoc, List.cons_append]
  have hlike2 := parse_like hk
  have hP2 : parseP (d :: (ca ++ s :: (cr ++ (ALL b).1))) = thenP (rulesP ((cr ++ (ALL b).1).length + 1) [] (cr ++ (ALL b).1)) fun rs => .ok (x.1, x.2.1, rs) := by
    simp only [parseP]
    rw [if_pos hd, hact1, thenP_ok]
    simp only [semiP]
    rw [if_pos hs, thenP_ok]
  have hall := run_trans (hrun1 (ALL b).1) hrun
  have u0 : (ALL ((a ++ ⟨#[10]⟩) ++ b)).2.1 = 0 := by rw [hu]
  rw [hP2] at hlike2
  rw [ae, de]
  simp only
  refine ⟨fun h => ?_, fun h => ?_⟩
  · obtain ⟨q, hq⟩ := run_over hall ((cr ++ (ALL b).1).length + 1) [] (Nat.lt_succ_self _) (by simp) (by simp; omega)
    rw [hq, thenP_bad] at hlike2
    unfold PARSE
    rw [if_pos u0]
    cases hz : parseP (ALL ((a ++ ⟨#[10]⟩) ++ b)).1 with
    | ok z => rw [hz] at hlike2; cases hlike2
    | bad e q =>
      rw [hz] at hlike2
      have : e = 4 := by injection hlike2
      exact this
  · have hq := run_rules hall ((cr ++ (ALL b).1).length + 1) [] e r rfl he (Nat.lt_succ_self _) (by simp; omega)
    rw [hq, thenP_ok, List.nil_append] at hlike2
    unfold PARSE
    rw [if_pos u0]
    cases hz : parseP (ALL ((a ++ ⟨#[10]⟩) ++ b)).1 with
    | bad e q => rw [hz] at hlike2; cases hlike2
    | ok z =>
      rw [hz] at hlike2
      have : z = (x.1, x.2.1, x.2.2 ++ y.2.2) := by injection hlike2
      subst this
      exact ⟨rfl, rfl, rfl, rfl⟩
theorem ParseJoins : fairleadlaw10_ParseJoins.Pure := by
  intro a b _ _
  refine ⟨60000 + 2, ?_⟩
  generalize hK : 60000 = K
  have hk : 60000 ≤ K := by omega
  unfold fairleadlaw10_ParseJoins.f
  rw [awake10 (K + 2) (by omega), Option.bind_some]
  by_cases h1 : (a.size : Int) > 3000
  · rw [if_pos h1]
    simp only [fairleadlaw10_ParseJoins.j0]
    rw [if_pos trivial]
  · rw [if_neg h1]
    by_cases h2 : (b.size : Int) > 3000
    · rw [decide_eq_true h2]
      simp only [fairleadlaw10_ParseJoins.j0]
      rw [if_pos trivial]
    · rw [decide_eq_false h2]
      simp only [fairleadlaw10_ParseJoins.j0]
      rw [if_neg (by decide), parse_is a _ (by omega), Option.bind_some, if_pos (by omega)]
      rw [show (⟨#[100, 101, 102, 97, 117, 108, 116, 32, 108, 111, 103, 59]⟩ : ByteArray) ++ b = DEFS ++ b from rfl, parse_is (DEFS ++ b) _ (by omega), Option.bind_some, if_pos (by omega), if_pos (by rw [ByteArray.size_append]; show a.size + 1 + b.size ≤ _; omega), parse_is ((a ++ ⟨#[10]⟩) ++ b) _ (by omega), Option.bind_some]
      by_cases ha : (PARSE a).2.2.2.1 = 0
      · rw [if_pos ha]
        simp only [fairleadlaw10_ParseJoins.j1]
        by_cases hb : (PARSE (DEFS ++ b)).2.2.2.1 = 0
        · rw [hb, if_neg (by decide)]
          obtain ⟨j1, j2⟩ := joined a b (by omega) ha hb
          have l1 := PARSE_ok a
          have l2 := PARSE_ok (DEFS ++ b)
          rw [w64_id (by omega) (by omega)]
          by_cases hs : ((PARSE a).2.2.1.length : Int) + ((PARSE (DEFS ++ b)).2.2.1.length : Int) > 64
          · rw [if_pos hs, if_pos trivial, j1 (by omega)]; rfl
          · rw [if_neg hs, Option.bind_some, if_pos (by simp; omega), Option.bind_some, List.nil_append, if_pos (by omega)]
            obtain ⟨e1, e2, e3, e4⟩ := j2 (by omega)
            rw [e1, e2, e3, e4, same10 _ _ _ (by simp; omega) (fun z hz => by
              rcases List.mem_append.1 hz with hz | hz
              · exact l1.2 z hz
              · exact l2.2 z hz) K (by omega), Option.bind_some]
            rfl
        · rw [if_pos (by simpa using hb)]
      · rw [if_neg ha]
        simp only [fairleadlaw10_ParseJoins.j1]
        rw [if_pos trivial]
end Go.Proofs.Ytfahchgglapglaa.Pure
