/- The law ParseBlanks, as numbers and lists: what the printed functions say of it is true for every input that the row lets in. -/
import Derived.Test.YtfahchgglapglaaMx19
import Derived.Test.YtfahchgglapglaaAid
import Derived.Test.YtfahchgglapglaaK09
import Derived.Test.YtfahchgglapglaaK10
namespace Go.Proofs.Ytfahchgglapglaa.Pure
open Go Go.RowKit Go.Proofs.Ytfahchgglapglaa.M Go.Proofs.Ytfahchgglapglaa.Aid Go.Proofs.YtfahchgglapglaaW.PrintWords Go.Proofs.YtfahchgglapglaaW.PrintLast Go.Proofs.YtfahchgglapglaaW.PrintMore
set_option linter.unusedVariables false
set_option linter.unusedSimpArgs false

-- IMPORT K09
-- IMPORT K10
def sep5 : List Int := [35, 32, 59, 10, 32]
theorem sep5_blank (r : List Int) : blankL (sep5 ++ r) false = sep5.length + blankL r false := by
  show blankL (35 :: 32 :: 59 :: 10 :: 32 :: r) false = 5 + blankL r false
  simp only [blankL]
  rw [if_pos trivial]
  show 1 + (1 + (1 + (1 + (if (32 : Int) = 35 then _ else if wsP 32 then 1 + blankL r false else 0)))) = _
  rw [if_neg (by decide), if_pos (by decide)]
  omega
theorem sep5_cons (r : List Int) : ∃ c r', sep5 ++ r = c :: r' ∧ ¬ goesP c ∧ c ≠ 61 := ⟨35, 32 :: 59 :: 10 :: 32 :: r, rfl, by decide, by decide⟩
/-- Each token's text, with a note ahead. -/
def wideL : List S39 → List Int
  | [] => []
  | t :: r => sep5 ++ (ch t.f2 ++ wideL r)
theorem wide_join : ∀ l : List S39, l ≠ [] → wideL l = sep5 ++ joinB sep5 l
  | [], h => absurd rfl h
  | [t], _ => by simp [wideL, joinB]
  | t :: u :: r, _ => by
    have := wide_join (u :: r) (by simp)
    show sep5 ++ (ch t.f2 ++ wideL (u :: r)) = sep5 ++ (ch t.f2 ++ (if u :: r = [] then [] else sep5 ++ joinB sep5 (u :: r)))
    rw [this, if_neg (List.cons_ne_nil _ _)]
theorem wide_drop (l : List S39) (i : Nat) (h : i < l.length) : wideL (l.drop i) = sep5 ++ (ch (rd_T39 l i).f2 ++ wideL (l.drop (i + 1))) := by
  have e := List.drop_eq_getElem_cons h
  have hrd : rd_T39 l i = l[i] := by
    unfold rd_T39
    rw [Int.toNat_natCast, List.getD_eq_getElem?_getD, List.getElem?_eq_getElem h]
    rfl
  rw [e, wideL, hrd]
theorem blanks_end (s u : ByteArray) (hlike : (ALL u).2.1 = 0 ∧ (ALL u).1.map kd3 = (ALL s).1.map kd3) (h0 : (ALL s).2.1 = 0) (k : Nat) (hk : 40000 ≤ k) :
    ((parse_Parse.f k s).bind fun bt296 => ((parse_Parse.f k u).bind fun bt304 => ((fairleadref10_Same.f k bt296.1 bt296.2.1 bt296.2.2.1 bt304.1 bt304.2.1 bt304.2.2.1).bind fun t312 => (if true = true then (if t312 = true then (some (bt296.2.2.2.1 == bt304.2.2.2.1)) else (some false)) else (some false))))) = some true := by
  rw [parse_is s k hk, parse_is u k hk, Option.bind_some, Option.bind_some]
  have hb := PARSE_ok s
  have hl := parse_like hlike.2
  have e : (PARSE u).1 = (PARSE s).1 ∧ (PARSE u).2.1 = (PARSE s).2.1 ∧ (PARSE u).2.2.1 = (PARSE s).2.2.1 ∧ (PARSE u).2.2.2.1 = (PARSE s).2.2.2.1 := by
    unfold PARSE
    rw [if_pos hlike.1, if_pos h0]
    cases hu : parseP (ALL u).1 with
    | bad e q =>
      cases hs : parseP (ALL s).1 with
      | bad e' q' =>
        rw [hu, hs] at hl
        have : e = e' := by injection hl
        subst this
        exact ⟨rfl, rfl, rfl, rfl⟩
      | ok y => rw [hu, hs] at hl; cases hl
    | ok x =>
      cases hs : parseP (ALL s).1 with
      | bad e' q' => rw [hu, hs] at hl; cases hl
      | ok y =>
        rw [hu, hs] at hl
        have : x = y := by injection hl
        subst this
        exact ⟨rfl, rfl, rfl, rfl⟩
  rw [e.1, e.2.1, e.2.2.1, e.2.2.2, same10 _ _ _ (by omega) hb.2 k (by omega), Option.bind_some]
  simp
theorem blanks_loop (s : ByteArray) (h0 : (ALL s).2.1 = 0) (hl : (ALL s).1.length ≤ 8193) (hz : (wideL (ALL s).1).length ≤ 1000000) (hend : ∀ u : ByteArray, ch u = wideL (ALL s).1 → u.size ≤ 8192 → (ALL u).2.1 = 0 ∧ (ALL u).1.map kd3 = (ALL s).1.map kd3) (d : Nat) :
    ∀ (k i : Nat) (x : ByteArray), i + d = (ALL s).1.length → d + 40001 < k → ch x ++ wideL ((ALL s).1.drop i) = wideL (ALL s).1 → fairleadlaw10_ParseBlanks.l0 k s true (ALL s).1 x i = some true := by
  induction d with
  | zero =>
    intro k i x hi hk hx
    obtain ⟨k, rfl⟩ : ∃ m, k = m + 1 := ⟨k - 1, by omega⟩
    rw [List.drop_of_length_le (by omega)] at hx
    simp only [wideL, List.append_nil] at hx
    simp only [fairleadlaw10_ParseBlanks.l0]
    rw [if_neg (by omega)]
    by_cases hs : (x.size : Int) > 8192
    · rw [if_pos hs]
    · rw [if_neg hs]
      exact blanks_end s x (hend x hx (by omega)) h0 k (by omega)
  | succ d ih =>
    intro k i x hi hk hx
    obtain ⟨k, rfl⟩ : ∃ m, k = m + 1 := ⟨k - 1, by omega⟩
    have hlen := congrArg List.length hx
    rw [wide_drop _ i (by omega)] at hx
    rw [List.length_append, ch_len, wide_drop _ i (by omega), List.length_append, List.length_append, ch_len, show sep5.length = 5 from rfl] at hlen
    simp only [fairleadlaw10_ParseBlanks.l0]
    rw [if_pos (by omega), if_pos (by omega), if_pos (by omega), ByteArray.size_append, if_pos (by simp only [show (⟨#[35, 32, 59, 10, 32]⟩ : ByteArray).size = 5 from rfl]; omega), w64_id (by omega) (by omega)]
    have := ih k (i + 1) ((x ++ (⟨#[35, 32, 59, 10, 32]⟩ : ByteArray)) ++ (rd_T39 (ALL s).1 i).f2) (by omega) (by omega) (by
      rw [ch_app, ch_app, ← hx, show ch ⟨#[35, 32, 59, 10, 32]⟩ = sep5 from rfl]
      simp only [List.append_assoc])
    rwa [show ((i + 1 : Nat) : Int) = (i : Int) + 1 from by omega] at this
theorem wide_len (s : ByteArray) (f : Nat) : ∀ p, p ≤ s.size → s.size - p < f → (wideL (allP s f p).1).length ≤ 6 * (s.size - p) + 5 := by
  induction f with
  | zero => intro p _ h; omega
  | succ f ih =>
    intro p hp h
    simp only [allP]
    by_cases hlt : p < s.size
    · rw [if_pos hlt]
      by_cases he : (ONE ((ch s).drop p)).2.2.2 = 0
      · have hn := one_len s p hlt he
        have hsz := ext_size s p (ONE ((ch s).drop p)).2.1 hn.2
        have hbl := blankL_le ((ch s).drop (p + (ONE ((ch s).drop p)).2.1)) false
        rw [List.length_drop, ch_len] at hbl
        rw [if_pos he]
        by_cases hr : (allP s f (p + (ONE ((ch s).drop p)).2.1 + blankL ((ch s).drop (p + (ONE ((ch s).drop p)).2.1)) false)).2.1 = 0
        · rw [if_pos hr]
          have := ih (p + (ONE ((ch s).drop p)).2.1 + blankL ((ch s).drop (p + (ONE ((ch s).drop p)).2.1)) false) (by omega) (by omega)
          simp only [wideL, List.length_append, ch_len, TOK, show sep5.length = 5 from rfl]
          omega
        · rw [if_neg hr]; simp [wideL]
      · rw [if_neg he]; simp [wideL]
    · rw [if_neg hlt]
      simp [wideL, ch_nil, sep5]
theorem ParseBlanks : fairleadlaw10_ParseBlanks.Pure := by
  intro s _
  refine ⟨60000 + 0, ?_⟩
  generalize hK : 60000 + 0 = K
  have hk : 60000 ≤ K := by omega
  unfold fairleadlaw10_ParseBlanks.f
  rw [awake10 K (by omega), Option.bind_some]
  by_cases h : (s.size : Int) > 1500
  · rw [if_pos h]
  · rw [if_neg h, all_is s K (by omega), Option.bind_some]
    by_cases h0 : (ALL s).2.1 = 0
    · rw [if_pos h0]
      have hl := ALL_len s
      have hb := blankL_le (ch s) false
      rw [ch_len] at hb
      have hA : ALL s = fin [] (allP s (s.size + 1) (blankL (ch s) false)) := by unfold ALL; rw [if_neg (by omega)]
      have he : (allP s (s.size + 1) (blankL (ch s) false)).2.1 = 0 := by
        rw [hA] at h0
        unfold fin at h0
        by_cases he : (allP s (s.size + 1) (blankL (ch s) false)).2.1 = 0
        · exact he
        · rw [if_neg he] at h0; exact absurd h0 he
      have hA1 : (ALL s).1 = (allP s (s.size + 1) (blankL (ch s) false)).1 := by
        rw [hA]; unfold fin; rw [if_pos he, List.nil_append]
      have hne := (allP_ok s (s.size + 1) (blankL (ch s) false) hb (by omega) he).2
      have hwl := wide_len s (s.size + 1) (blankL (ch s) false) hb (by omega)
      have := blanks_loop s h0 hl (by rw [hA1]; omega) (fun u hu huz => by
        rw [hA1] at hu ⊢
        rw [wide_join _ hne] at hu
        have hul : u.size = 5 + (joinB sep5 (allP s (s.size + 1) (blankL (ch s) false)).1).length := by rw [← ch_len, hu, List.length_append]; rfl
        have hd : (ch u).drop 5 = joinB sep5 (allP s (s.size + 1) (blankL (ch s) false)).1 := by rw [hu]; rfl
        have h3 := allP_joinB sep5 sep5_blank sep5_cons s (s.size + 1) (blankL (ch s) false) hb (by omega) he u 5 (u.size + 1) (by omega) hd (by omega)
        have hbl : blankL (ch u) false = 5 + blankL ((ch u).drop 5) false := by rw [hd, hu, sep5_blank]; rfl
        unfold ALL fin
        rw [if_neg (by omega), hbl, if_pos h3.1, List.nil_append]
        exact ⟨rfl, h3.2⟩) (ALL s).1.length K 0 ⟨#[]⟩ (by omega) (by omega) (by simp [ch_nil])
      rwa [Int.natCast_zero] at this
    · rw [if_neg h0]

end Go.Proofs.Ytfahchgglapglaa.Pure
