/- The law ParseMany, as numbers and lists: what the printed functions say of it is true for every input that the row lets in. -/
import Derived.Test.YtfahchgglapglaaMx20
import Derived.Test.YtfahchgglapglaaAid
import Derived.Test.YtfahchgglapglaaK09
import Derived.Test.YtfahchgglapglaaK10
namespace Go.Proofs.Ytfahchgglapglaa.Pure
open Go Go.RowKit Go.Proofs.Ytfahchgglapglaa.M Go.Proofs.Ytfahchgglapglaa.Aid Go.Proofs.YtfahchgglapglaaW.PrintWords Go.Proofs.YtfahchgglapglaaW.PrintLast Go.Proofs.YtfahchgglapglaaW.PrintMore
set_option linter.unusedVariables false
set_option linter.unusedSimpArgs false

-- IMPORT K09
-- IMPORT K10
abbrev comma (u : S39) : Prop := tkI u 3 ⟨#[44]⟩
abbrev whenT (u : S39) : Prop := tkI u 1 ⟨#[119, 104, 101, 110]⟩
abbrev semiT (u : S39) : Prop := tkI u 3 ⟨#[59]⟩
/-- Bytes that are tokens, one behind the other, with blanks between them. -/
inductive Lexes : List Int → List S39 → Prop
  | nil : Lexes [] []
  | blank {l E} (h : Lexes l E) : Lexes (32 :: l) E
  | tok {l E} (t : S39) (hn : 0 < t.f2.size) (ho : ONE (ch t.f2 ++ l) = (t.f0, t.f2.size, t.f3, 0)) (h : Lexes l E) : Lexes (ch t.f2 ++ l) (t :: E)
def endK : S39 := ⟨4, 0, ⟨#[]⟩, 0⟩
theorem lexes_all {l : List Int} {E : List S39} (h : Lexes l E) : ∀ (u : ByteArray) (q f : Nat), q ≤ u.size → (ch u).drop q = l → u.size - q < f →
    (allP u f (q + blankL l false)).2.1 = 0 ∧ (allP u f (q + blankL l false)).1.map kd3 = (E ++ [endK]).map kd3 := by
  induction h with
  | nil =>
    intro u q f hq hu hf
    obtain ⟨f, rfl⟩ : ∃ m, f = m + 1 := ⟨f - 1, by omega⟩
    have e : u.size - q = 0 := by have := congrArg List.length hu; rw [List.length_drop, ch_len] at this; exact this
    show (allP u (f + 1) q).2.1 = 0 ∧ (allP u (f + 1) q).1.map kd3 = _
    rw [allP.eq_2 u q f, if_neg (by omega)]
    exact ⟨rfl, rfl⟩
  | @blank l E h ih =>
    intro u q f hq hu hf
    have hlen := congrArg List.length hu
    rw [List.length_drop, ch_len, List.length_cons] at hlen
    have hd : (ch u).drop (q + 1) = l := by rw [← List.drop_drop, hu]; rfl
    have := ih u (q + 1) f (by omega) hd (by omega)
    have e : blankL (32 :: l) false = 1 + blankL l false := by simp only [blankL]; rw [if_neg (by decide), if_pos (by decide)]
    rw [e, ← Nat.add_assoc]
    exact this
  | @tok l E t hn ho h ih =>
    intro u q f hq hu hf
    have hlen := congrArg List.length hu
    rw [List.length_drop, ch_len, List.length_append, ch_len] at hlen
    have hne : ch t.f2 ++ l ≠ [] := fun e => by have := congrArg List.length e; rw [List.length_append, ch_len, List.length_nil] at this; omega
    have hb := one_noblank (ch t.f2 ++ l) (by rw [ho]) hne []
    have hb0 : blankL (ch t.f2 ++ l) false = 0 := by
      have := one_noblank (ch t.f2 ++ l) (by rw [ho]) hne ((ch t.f2 ++ l).drop (ONE (ch t.f2 ++ l)).2.1)
      rwa [List.take_append_drop] at this
    obtain ⟨f, rfl⟩ : ∃ m, f = m + 1 := ⟨f - 1, by omega⟩
    have hd : (ch u).drop (q + t.f2.size) = l := by rw [← List.drop_drop, hu, List.drop_left' (ch_len _)]
    have g := ih u (q + t.f2.size) f (by omega) hd (by omega)
    rw [hb0]
    show (allP u (f + 1) q).2.1 = 0 ∧ (allP u (f + 1) q).1.map kd3 = _
    rw [allP.eq_2 u q f, if_pos (by omega), hu, ho, if_pos rfl]
    simp only
    rw [hd, if_pos g.1]
    refine ⟨rfl, ?_⟩
    rw [List.cons_append, List.map_cons, List.map_cons, g.2]
    congr 1
    unfold kd3 TOK
    simp only
    rw [hu, ho]
    simp only
    have : u.extract q (q + t.f2.size) = t.f2 := by
      apply ch_inj
      rw [ch_extract, List.drop_take, Nat.add_sub_cancel_left, hu, List.take_left' (ch_len _)]
    rw [this]
theorem lex_word (t : S39) (hn : 0 < t.f2.size) (ho : ONE (ch t.f2) = (t.f0, t.f2.size, t.f3, 0)) {c : Int} {r : List Int} {E : List S39} (hc : ¬ goesP c ∧ c ≠ 61) (h : Lexes (c :: r) E) : Lexes (ch t.f2 ++ c :: r) (t :: E) := by
  refine .tok t hn ?_ h
  have hne : ch t.f2 ≠ [] := fun e => by have := congrArg List.length e; rw [ch_len, List.length_nil] at this; omega
  have := one_cut (ch t.f2) (by rw [ho]) hne c r hc.1 hc.2
  rw [ho] at this
  rwa [List.take_of_length_le (by rw [ch_len]; exact Nat.le_refl _)] at this
def tkC : S39 := ⟨3, 0, ⟨#[44]⟩, 0⟩
def tkS : S39 := ⟨3, 0, ⟨#[59]⟩, 0⟩
def tkL : S39 := ⟨3, 0, ⟨#[60]⟩, 0⟩
def tkA : S39 := ⟨1, 0, ⟨#[97]⟩, 0⟩
def tkG : S39 := ⟨1, 0, ⟨#[108, 111, 103]⟩, 0⟩
def tkW : S39 := ⟨1, 0, ⟨#[119, 104, 101, 110]⟩, 0⟩
def tkNd : S39 := ⟨1, 0, ⟨#[97, 110, 100]⟩, 0⟩
def tkR : S39 := ⟨1, 0, ⟨#[97, 114, 103, 48]⟩, 0⟩
def tk1 : S39 := ⟨2, 0, ⟨#[49]⟩, 1⟩
def tkD : S39 := ⟨1, 0, ⟨#[100, 101, 102, 97, 117, 108, 116]⟩, 0⟩
theorem lex_comma {r : List Int} {E : List S39} (h : Lexes r E) : Lexes (44 :: r) (tkC :: E) := by
  refine Lexes.tok (l := r) tkC (by decide) ?_ h
  have hs : signL (44 :: r) = 1 := by unfold signL; rw [rd_cons, if_neg (by decide), if_pos (by decide)]
  show ONE (44 :: r) = _
  unfold ONE
  rw [rd_cons, if_neg (by decide), if_neg (by decide), hs, if_pos (by decide)]
  rfl
theorem lex_semi {r : List Int} {E : List S39} (h : Lexes r E) : Lexes (59 :: r) (tkS :: E) := by
  refine Lexes.tok (l := r) tkS (by decide) ?_ h
  have hs : signL (59 :: r) = 1 := by unfold signL; rw [rd_cons, if_neg (by decide), if_pos (by decide)]
  show ONE (59 :: r) = _
  unfold ONE
  rw [rd_cons, if_neg (by decide), if_neg (by decide), hs, if_pos (by decide)]
  rfl
theorem lex_less {r : List Int} {E : List S39} (h : Lexes (49 :: r) E) : Lexes (60 :: 49 :: r) (tkL :: E) := by
  refine Lexes.tok (l := 49 :: r) tkL (by decide) ?_ h
  have hs : signL (60 :: 49 :: r) = 1 := by unfold signL; rw [rd_cons, rd_cons1, if_pos (by decide), if_neg (fun h => absurd h.2 (by decide)), if_neg (by decide)]
  show ONE (60 :: 49 :: r) = _
  unfold ONE
  rw [rd_cons, if_neg (by decide), if_neg (by decide), hs, if_pos (by decide)]
  rfl
/-- The names behind the first one. -/
def namB : Nat → List Int
  | 0 => []
  | n + 1 => 44 :: 97 :: namB n
def namT : Nat → List S39
  | 0 => []
  | n + 1 => tkC :: tkA :: namT n
theorem lex_a {c : Int} {r : List Int} {E : List S39} (hc : ¬ goesP c ∧ c ≠ 61) (h : Lexes (c :: r) E) : Lexes (97 :: c :: r) (tkA :: E) := lex_word tkA (by decide) (by decide +kernel) hc h
theorem lex_nam (n : Nat) {c : Int} {r : List Int} {E : List S39} (hc : ¬ goesP c ∧ c ≠ 61) (h : Lexes (c :: r) E) : Lexes (97 :: (namB n ++ c :: r)) (tkA :: (namT n ++ E)) := by
  induction n with
  | zero => exact lex_a hc h
  | succ n ih =>
    show Lexes (97 :: 44 :: (97 :: (namB n ++ c :: r))) (tkA :: tkC :: (tkA :: (namT n ++ E)))
    exact lex_a (by decide) (lex_comma ih)
/-- arg0<1, and what stands behind it. -/
theorem lex_arg {c : Int} {r : List Int} {E : List S39} (hc : ¬ goesP c ∧ c ≠ 61) (h : Lexes (c :: r) E) : Lexes (97 :: 114 :: 103 :: 48 :: 60 :: 49 :: c :: r) (tkR :: tkL :: tk1 :: E) :=
  lex_word (c := 60) tkR (by decide) (by decide +kernel) (by decide) (lex_less (lex_word tk1 (by decide) (by decide +kernel) hc h))
def andB : Nat → List Int
  | 0 => []
  | n + 1 => 32 :: 97 :: 110 :: 100 :: 32 :: 97 :: 114 :: 103 :: 48 :: 60 :: 49 :: andB n
def andTs : Nat → List S39
  | 0 => []
  | n + 1 => tkNd :: tkR :: tkL :: tk1 :: andTs n
theorem lex_and (n : Nat) {r : List Int} {E : List S39} (h : Lexes (59 :: r) E) : Lexes (andB n ++ 59 :: r) (andTs n ++ E) := by
  induction n with
  | zero => exact h
  | succ n ih =>
    refine .blank ?_
    refine lex_word (c := 32) tkNd (by decide) (by decide +kernel) (by decide) (.blank ?_)
    cases hb : andB n with
    | nil => rw [hb] at ih; exact lex_arg (c := 59) (by decide) ih
    | cons c x =>
      have hc : c = 32 := by cases n with
        | zero => simp [andB] at hb
        | succ n => simp [andB] at hb; exact hb.1.symm
      subst hc
      rw [hb] at ih
      exact lex_arg (c := 32) (by decide) ih
def conB : Nat → List Int
  | 0 => []
  | n + 1 => 32 :: 119 :: 104 :: 101 :: 110 :: 32 :: 97 :: 114 :: 103 :: 48 :: 60 :: 49 :: andB n
def conT : Nat → List S39
  | 0 => []
  | n + 1 => tkW :: tkR :: tkL :: tk1 :: andTs n
theorem conB_head (c : Nat) (r : List Int) : ∃ x y, conB c ++ 59 :: r = x :: y ∧ ¬ goesP x ∧ x ≠ 61 := by
  cases c with
  | zero => exact ⟨59, r, rfl, by decide, by decide⟩
  | succ c => exact ⟨32, _, rfl, by decide, by decide⟩
theorem lex_con (n : Nat) {r : List Int} {E : List S39} (h : Lexes (59 :: r) E) : Lexes (conB n ++ 59 :: r) (conT n ++ E) := by
  cases n with
  | zero => exact h
  | succ n =>
    have ih := lex_and n h
    refine .blank ?_
    refine lex_word (c := 32) tkW (by decide) (by decide +kernel) (by decide) (.blank ?_)
    cases hb : andB n with
    | nil => rw [hb] at ih; exact lex_arg (c := 59) (by decide) ih
    | cons c x =>
      have hc : c = 32 := by cases n with
        | zero => simp [andB] at hb
        | succ n => simp [andB] at hb; exact hb.1.symm
      subst hc
      rw [hb] at ih
      exact lex_arg (c := 32) (by decide) ih
/-- One rule, of n names beside the first, and c conditions. -/
def ruleB (n c : Nat) : List Int := 108 :: 111 :: 103 :: 32 :: 97 :: (namB n ++ conB c)
def ruleT (n c : Nat) : List S39 := tkG :: tkA :: (namT n ++ conT c)
def manyB (b : List Int) : Nat → List Int
  | 0 => []
  | m + 1 => b ++ 59 :: manyB b m
def manyT (n c : Nat) : Nat → List S39
  | 0 => []
  | m + 1 => ruleT n c ++ tkS :: manyT n c m
theorem lex_many (n c : Nat) : ∀ m, Lexes (manyB (ruleB n c) m) (manyT n c m)
  | 0 => .nil
  | m + 1 => by
    have h := lex_con c (lex_semi (lex_many n c m))
    obtain ⟨x, y, e, hx⟩ := conB_head c (manyB (ruleB n c) m)
    have h2 : Lexes (97 :: (namB n ++ (conB c ++ 59 :: manyB (ruleB n c) m))) (tkA :: (namT n ++ (conT c ++ tkS :: manyT n c m))) := by
      rw [e] at h ⊢
      exact lex_nam n hx h
    have h3 := lex_word (c := 32) tkG (by decide) (by decide +kernel) (by decide) (.blank h2)
    simp only [manyB, manyT, ruleB, ruleT, List.cons_append, List.append_assoc]
    exact h3
theorem lex_text (n c m : Nat) : Lexes (100 :: 101 :: 102 :: 97 :: 117 :: 108 :: 116 :: 32 :: 108 :: 111 :: 103 :: 59 :: manyB (ruleB n c) m) (tkD :: tkG :: tkS :: manyT n c m) :=
  lex_word (c := 32) tkD (by decide) (by decide +kernel) (by decide) (.blank (lex_word (c := 59) tkG (by decide) (by decide +kernel) (by decide) (lex_semi (lex_many n c m))))
/-! ### the tokens' rules -/
theorem nam_read (n : Nat) : ∀ (ns : List ByteArray) (u : S39) (r : List S39), ¬ comma u → (ns.length + n + 1 ≤ 16 → ∃ ns', namesP ns (tkA :: (namT n ++ u :: r)) = .ok (ns', u :: r)) ∧ (ns.length ≤ 16 → 16 < ns.length + n + 1 → namesP ns (tkA :: (namT n ++ u :: r)) = .bad 4 0) := by
  induction n with
  | zero =>
    intro ns u r hu
    refine ⟨fun h => ⟨ns ++ [tkA.f2], ?_⟩, fun h1 h2 => ?_⟩
    · simp only [namT, List.nil_append, namesP]
      rw [if_pos (show tkA.f0 = 1 from rfl), if_neg (by omega), if_neg hu]
    · simp only [namT, List.nil_append, namesP]
      rw [if_pos (show tkA.f0 = 1 from rfl), if_pos (by omega)]
      rfl
  | succ n ih =>
    intro ns u r hu
    obtain ⟨i1, i2⟩ := ih (ns ++ [tkA.f2]) u r hu
    have hl : (ns ++ [tkA.f2]).length = ns.length + 1 := by simp
    rw [hl] at i1 i2
    simp only [namT, List.cons_append, namesP]
    rw [if_pos (show tkA.f0 = 1 from rfl), if_pos (show comma tkC from ⟨rfl, rfl⟩)]
    refine ⟨fun h => ?_, fun h1 h2 => ?_⟩
    · rw [if_neg (by omega)]
      exact i1 (by omega)
    · by_cases h3 : ns.length = 16
      · rw [if_pos h3]; rfl
      · rw [if_neg h3]
        exact i2 (by omega) (by omega)
theorem arg_read (room : Bool) (r : List S39) : condP room (tkR :: tkL :: tk1 :: r) = if room = true then .ok (⟨0, 3, 18446744073709551615, 1⟩, r) else .bad 4 0 := by
  simp only [condP]
  rw [if_pos (show argP tkR by decide +kernel)]
  cases room with
  | false => rfl
  | true =>
    rw [if_neg (by decide), if_pos rfl]
    rw [if_neg (show ¬ tkI tkL 3 ⟨#[38]⟩ by decide +kernel)]
    unfold restP
    simp only [opP]
    rw [if_neg (show ¬ opN tkL = 0 by decide +kernel), thenP_ok]
    simp only [mustP]
    rw [if_pos (show tk1.f0 = 2 from rfl), thenP_ok]
    have e1 : bt tkR.f2 3 - 48 = 0 := by decide +kernel
    have e2 : opN tkL = 3 := by decide +kernel
    rw [e1, e2]
    rfl
theorem con_read (f : Nat) : ∀ (n : Nat) (cs : List S46) (r : List S39), n < f → (cs.length + n + 1 ≤ 8 → ∃ cs', condsP f cs (tkR :: tkL :: tk1 :: (andTs n ++ tkS :: r)) = .ok (cs', tkS :: r)) ∧ (cs.length ≤ 8 → 8 < cs.length + n + 1 → condsP f cs (tkR :: tkL :: tk1 :: (andTs n ++ tkS :: r)) = .bad 4 0) := by
  induction f with
  | zero => intro n cs r h; omega
  | succ f ih =>
    intro n cs r hf
    simp only [condsP]
    rw [arg_read]
    by_cases hr : (cs.length : Int) < 8
    · rw [decide_eq_true hr, if_pos rfl, thenP_ok]
      cases n with
      | zero =>
        refine ⟨fun _ => ⟨cs ++ [⟨0, 3, 18446744073709551615, 1⟩], ?_⟩, fun _ h => by omega⟩
        simp only [andTs, List.nil_append]
        rw [if_neg (show ¬ tkI tkS 1 ⟨#[97, 110, 100]⟩ by decide +kernel)]
      | succ n =>
        simp only [andTs, List.cons_append]
        rw [if_pos (show tkI tkNd 1 ⟨#[97, 110, 100]⟩ from ⟨rfl, rfl⟩)]
        have := ih n (cs ++ [⟨0, 3, 18446744073709551615, 1⟩]) r (by omega)
        simp only [List.length_append, List.length_cons, List.length_nil] at this
        exact ⟨fun h => this.1 (by omega), fun h1 h2 => this.2 (by omega) (by omega)⟩
    · rw [decide_eq_false hr, if_neg (by decide), thenP_bad]
      exact ⟨fun h => by omega, fun _ _ => rfl⟩
theorem andTs_len : ∀ n, (andTs n).length = 4 * n
  | 0 => rfl
  | n + 1 => by simp only [andTs, List.length_cons, andTs_len n]; omega
theorem con_tail (kd ar : Int) (ns : List ByteArray) (c : Nat) (r : List S39) : (c ≤ 8 → ∃ x, tailP kd ar ns (conT c ++ tkS :: r) = .ok (x, r)) ∧ (8 < c → tailP kd ar ns (conT c ++ tkS :: r) = .bad 4 0) := by
  have close : ∀ cs : List S46, (thenP (semiP (tkS :: r)) fun r => .ok ((⟨⟨kd, ar⟩, ns, cs⟩ : S44), r)) = .ok (⟨⟨kd, ar⟩, ns, cs⟩, r) := by
    intro cs
    simp only [semiP]
    rw [if_pos (show semiT tkS from ⟨rfl, rfl⟩), thenP_ok]
  unfold tailP
  cases c with
  | zero =>
    refine ⟨fun _ => ⟨⟨⟨kd, ar⟩, ns, []⟩, ?_⟩, fun h => by omega⟩
    simp only [conT, List.nil_append, whenP]
    rw [if_neg (show ¬ whenT tkS by decide +kernel), thenP_ok]
    exact close []
  | succ c =>
    simp only [conT, List.cons_append, whenP]
    rw [if_pos (show whenT tkW from ⟨rfl, rfl⟩)]
    have := con_read (tkR :: tkL :: tk1 :: (andTs c ++ tkS :: r)).length c [] r (by simp only [List.length_cons, List.length_append, andTs_len]; omega)
    simp only [List.length_nil] at this
    refine ⟨fun h => ?_, fun h => ?_⟩
    · obtain ⟨cs, e⟩ := this.1 (by omega)
      exact ⟨_, by rw [e, thenP_ok]; exact close cs⟩
    · rw [this.2 (by omega) (by omega), thenP_bad]
theorem conT_head (c : Nat) (r : List S39) : ∃ u y, conT c ++ tkS :: r = u :: y ∧ ¬ comma u := by
  cases c with
  | zero => exact ⟨tkS, r, rfl, by decide +kernel⟩
  | succ c => exact ⟨tkW, _, rfl, by decide +kernel⟩
theorem rule_read (room : Bool) (n c : Nat) (r : List S39) : (room = true → n + 1 ≤ 16 → c ≤ 8 → ∃ x, ruleP room (ruleT n c ++ tkS :: r) = .ok (x, r)) ∧ (room = false ∨ 16 < n + 1 ∨ 8 < c → ruleP room (ruleT n c ++ tkS :: r) = .bad 4 0) := by
  have ha : ∀ y : List S39, actP true (tkG :: y) = .ok ((7, 0), y) := by
    intro y
    simp only [actP]
    have e : kindP tkG.f2 = 7 := by decide +kernel
    rw [e, if_neg (by decide), if_neg (by decide), if_pos (by decide)]
  have hf : ∀ y : List S39, actP false (tkG :: y) = .bad 4 0 := by
    intro y
    simp only [actP]
    have e : kindP tkG.f2 = 7 := by decide +kernel
    rw [e, if_neg (by decide), if_pos trivial]
    rfl
  simp only [ruleT, List.cons_append, List.append_assoc]
  unfold ruleP
  cases room with
  | false => exact ⟨fun h => absurd h (by decide), fun _ => by rw [hf, thenP_bad]⟩
  | true =>
    rw [ha, thenP_ok]
    obtain ⟨u, y, e, hu⟩ := conT_head c r
    have hn := nam_read n [] u y hu
    have ht := fun ns => con_tail 7 0 ns c r
    simp only [List.length_nil] at hn
    rw [e] at ht
    rw [e]
    refine ⟨fun _ h1 h2 => ?_, fun h => ?_⟩
    · obtain ⟨ns, e1⟩ := hn.1 (by omega)
      obtain ⟨x, e2⟩ := (ht ns).1 h2
      exact ⟨x, by rw [e1, thenP_ok]; exact e2⟩
    · rcases h with h | h | h
      · cases h
      · rw [hn.2 (by omega) (by omega), thenP_bad]
      · by_cases h1 : n + 1 ≤ 16
        · obtain ⟨ns, e1⟩ := hn.1 (by omega)
          rw [e1, thenP_ok]
          exact (ht ns).2 h
        · rw [hn.2 (by omega) (by omega), thenP_bad]
theorem ruleT_head (n c : Nat) (r : List S39) : ∃ y, ruleT n c ++ tkS :: r = tkG :: y := ⟨_, rfl⟩
theorem rules_read (n c m : Nat) : ∀ (f : Nat) (rs : List S44), m < f → rs.length ≤ 64 →
    (n + 1 ≤ 16 → c ≤ 8 → rs.length + m ≤ 64 → ∃ out, rulesP f rs (manyT n c m ++ [endK]) = .ok out ∧ out.length = rs.length + m) ∧ (1 ≤ m → (16 < n + 1 ∨ 8 < c ∨ 64 < rs.length + m) → rulesP f rs (manyT n c m ++ [endK]) = .bad 4 0) := by
  induction m with
  | zero =>
    intro f rs hf hl
    obtain ⟨f, rfl⟩ : ∃ j, f = j + 1 := ⟨f - 1, by omega⟩
    exact ⟨fun _ _ _ => ⟨rs, rfl, rfl⟩, fun h => by omega⟩
  | succ m ih =>
    intro f rs hf hl
    obtain ⟨f, rfl⟩ : ∃ j, f = j + 1 := ⟨f - 1, by omega⟩
    have hr := rule_read (decide ((rs.length : Int) < 64)) n c (manyT n c m ++ [endK])
    obtain ⟨y, ey⟩ := ruleT_head n c (manyT n c m ++ [endK])
    have e : manyT n c (m + 1) ++ [endK] = ruleT n c ++ tkS :: (manyT n c m ++ [endK]) := by simp [manyT]
    rw [ey] at hr e
    rw [e]
    simp only [rulesP]
    rw [if_neg (show ¬ tkG.f0 = 4 by decide)]
    refine ⟨fun h1 h2 h3 => ?_, fun _ h => ?_⟩
    · obtain ⟨x, ex⟩ := hr.1 (decide_eq_true (by omega)) h1 h2
      obtain ⟨out, e1, e2⟩ := (ih f (rs ++ [x]) (by omega) (by simp; omega)).1 h1 h2 (by simp; omega)
      exact ⟨out, by rw [ex, thenP_ok]; exact e1, by rw [e2]; simp; omega⟩
    · by_cases hroom : (rs.length : Int) < 64
      · by_cases h1 : 16 < n + 1
        · rw [hr.2 (.inr (.inl h1)), thenP_bad]
        · by_cases h2 : 8 < c
          · rw [hr.2 (.inr (.inr h2)), thenP_bad]
          · obtain ⟨x, ex⟩ := hr.1 (decide_eq_true hroom) (by omega) (by omega)
            rw [ex, thenP_ok]
            exact (ih f (rs ++ [x]) (by omega) (by simp; omega)).2 (by omega) (.inr (.inr (by simp; omega)))
      · rw [hr.2 (.inl (decide_eq_false hroom)), thenP_bad]
/-! ### the texts that the law makes -/
def DEFB : List Int := [100, 101, 102, 97, 117, 108, 116, 32, 108, 111, 103, 59]
theorem namB_snoc : ∀ n, namB n ++ [44, 97] = namB (n + 1)
  | 0 => rfl
  | n + 1 => by simp only [namB, List.cons_append, namB_snoc n]
theorem andB_snoc : ∀ n, andB n ++ [32, 97, 110, 100, 32, 97, 114, 103, 48, 60, 49] = andB (n + 1)
  | 0 => rfl
  | n + 1 => by simp only [andB, List.cons_append, andB_snoc n]
theorem conB_snoc (n : Nat) : conB (n + 1) ++ [32, 97, 110, 100, 32, 97, 114, 103, 48, 60, 49] = conB (n + 2) := by
  simp only [conB, List.cons_append, andB_snoc n]
theorem manyB_snoc (b : List Int) : ∀ m, manyB b m ++ (b ++ [59]) = manyB b (m + 1)
  | 0 => by simp [manyB]
  | m + 1 => by
    have := manyB_snoc b m
    simp only [manyB, List.append_assoc, List.cons_append] at this ⊢
    rw [this]
theorem manyB_len (b : List Int) : ∀ m, (manyB b m).length = m * (b.length + 1)
  | 0 => by simp [manyB]
  | m + 1 => by simp only [manyB, List.length_append, List.length_cons, manyB_len b m, Nat.succ_mul]; omega
theorem manyT_len (n c : Nat) : ∀ m, m ≤ (manyT n c m).length
  | 0 => Nat.zero_le _
  | m + 1 => by have := manyT_len n c m; simp only [manyT, List.length_append, List.length_cons]; omega
theorem text_parsed (n c m : Nat) (x : ByteArray) (hx : ch x = DEFB ++ manyB (ruleB n c) m) (hz : x.size ≤ 8192) :
    (n + 1 ≤ 16 → c ≤ 8 → m ≤ 64 → (PARSE x).2.2.2.1 = 0 ∧ (PARSE x).2.2.1.length = m) ∧ (1 ≤ m → (16 < n + 1 ∨ 8 < c ∨ 64 < m) → (PARSE x).2.2.2.1 = 4) := by
  have hl := lexes_all (lex_text n c m) x 0 (x.size + 1) (Nat.zero_le _) (by rw [List.drop_zero, hx]; rfl) (by omega)
  have hb : blankL (100 :: 101 :: 102 :: 97 :: 117 :: 108 :: 116 :: 32 :: 108 :: 111 :: 103 :: 59 :: manyB (ruleB n c) m) false = 0 := by
    simp only [blankL]; rw [if_neg (by decide), if_neg (by decide)]
  have hA : ALL x = fin [] (allP x (x.size + 1) 0) := by
    unfold ALL
    rw [if_neg (by omega), hx]
    show fin [] (allP x (x.size + 1) (blankL (100 :: 101 :: 102 :: 97 :: 117 :: 108 :: 116 :: 32 :: 108 :: 111 :: 103 :: 59 :: manyB (ruleB n c) m) false)) = _
    rw [hb]
  rw [hb] at hl
  have h0 : (ALL x).2.1 = 0 := by rw [hA]; unfold fin; rw [if_pos hl.1]
  have h1 : (ALL x).1.map kd3 = ((tkD :: tkG :: tkS :: manyT n c m) ++ [endK]).map kd3 := by
    rw [hA]; unfold fin; rw [if_pos hl.1, List.nil_append]; exact hl.2
  have hlike := parse_like h1
  have hact : actP true (tkG :: tkS :: (manyT n c m ++ [endK])) = .ok ((7, 0), tkS :: (manyT n c m ++ [endK])) := by
    simp only [actP]
    have e : kindP tkG.f2 = 7 := by decide +kernel
    rw [e, if_neg (by decide), if_neg (by decide), if_pos (by decide)]
  have hP : parseP ((tkD :: tkG :: tkS :: manyT n c m) ++ [endK]) = thenP (rulesP ((manyT n c m ++ [endK]).length + 1) [] (manyT n c m ++ [endK])) fun rs => .ok (7, 0, rs) := by
    simp only [List.cons_append, parseP]
    rw [if_pos (show tkI tkD 1 ⟨#[100, 101, 102, 97, 117, 108, 116]⟩ from ⟨rfl, rfl⟩), hact, thenP_ok]
    simp only [semiP]
    rw [if_pos (show semiT tkS from ⟨rfl, rfl⟩), thenP_ok]
  have hr := rules_read n c m ((manyT n c m ++ [endK]).length + 1) [] (by have := manyT_len n c m; simp; omega) (by simp)
  simp only [List.length_nil] at hr
  refine ⟨fun a1 a2 a3 => ?_, fun a1 a2 => ?_⟩
  · obtain ⟨out, e1, e2⟩ := hr.1 a1 a2 (by omega)
    rw [hP, e1, thenP_ok] at hlike
    unfold PARSE
    rw [if_pos h0]
    cases hq : parseP (ALL x).1 with
    | bad e q => rw [hq] at hlike; cases hlike
    | ok y =>
      rw [hq] at hlike
      have : y = (7, 0, out) := by injection hlike
      subst this
      exact ⟨rfl, by show out.length = m; omega⟩
  · have e1 := hr.2 a1 (by rcases a2 with a | a | a; exact .inl a; exact .inr (.inl a); exact .inr (.inr (by omega)))
    rw [hP, e1, thenP_bad] at hlike
    unfold PARSE
    rw [if_pos h0]
    cases hq : parseP (ALL x).1 with
    | ok y => rw [hq] at hlike; cases hlike
    | bad e q =>
      rw [hq] at hlike
      have : e = 4 := by injection hlike
      exact this
theorem many_l3 (x8 x11 : ByteArray) (e kd ar : Int) (rs : List S44) (m : Nat) (hm : m ≤ 100) (h8 : x8.size ≤ 100000) (hz : x11.size = 12 + m * (x8.size + 1)) (hend : (64 < m → e = 4) ∧ (m ≤ 64 → e = 0 ∧ rs.length = m)) (d : Nat) : ∀ (k j : Nat), j + d = m → d < k → fairleadlaw10_ParseMany.l3 k true x8 x11 e j ((12 + j * (x8.size + 1) : Nat) : Int) kd ar rs = some true := by
  induction d with
  | zero =>
    intro k j hj hk
    obtain ⟨k, rfl⟩ : ∃ i, k = i + 1 := ⟨k - 1, by omega⟩
    have : j = m := by omega
    subst this
    simp only [fairleadlaw10_ParseMany.l3]
    rw [if_neg (by omega)]
    by_cases h : (j : Int) > 64
    · rw [if_pos h, hend.1 (by omega)]; rfl
    · rw [if_neg h, (hend.2 (by omega)).1, (hend.2 (by omega)).2]
      simp
  | succ d ih =>
    intro k j hj hk
    obtain ⟨k, rfl⟩ : ∃ i, k = i + 1 := ⟨k - 1, by omega⟩
    have hjm : (j + 1) * (x8.size + 1) ≤ m * (x8.size + 1) := Nat.mul_le_mul_right _ (by omega)
    have hs : (j + 1) * (x8.size + 1) = j * (x8.size + 1) + (x8.size + 1) := Nat.succ_mul _ _
    have hb : m * (x8.size + 1) ≤ 100 * 100001 := Nat.mul_le_mul hm (by omega)
    simp only [fairleadlaw10_ParseMany.l3]
    rw [if_pos (by omega), w64_id (x := (j : Int) + 1) (by omega) (by omega), w64_id (x := ((12 + j * (x8.size + 1) : Nat) : Int) + (x8.size : Int)) (by omega) (by omega), w64_id (by omega) (by omega)]
    have := ih k (j + 1) (by omega) (by omega)
    rw [show (((12 + (j + 1) * (x8.size + 1)) : Nat) : Int) = ((12 + j * (x8.size + 1) : Nat) : Int) + (x8.size : Int) + 1 by omega, show ((j + 1 : Nat) : Int) = (j : Int) + 1 by omega] at this
    exact this
theorem many_j4 (a0 : Int) (n c m : Nat) (x8 x11 : ByteArray) (h8 : ch x8 = ruleB n c) (h11 : ch x11 = DEFB ++ manyB (ruleB n c) m) (hm : m ≤ 100) (h0 : (0 < a0 → 1 ≤ m) ∧ (a0 ≤ 0 → m = 0)) (hz8 : x8.size ≤ 1000) (k : Nat) (hk : 60000 ≤ k) : fairleadlaw10_ParseMany.j4 k a0 ((n : Int) + 1) c true x8 x11 = some true := by
  obtain ⟨k, rfl⟩ : ∃ i, k = i + 2 := ⟨k - 2, by omega⟩
  simp only [fairleadlaw10_ParseMany.j4]
  by_cases hz : (x11.size : Int) > 8192
  · rw [if_pos hz]
  · rw [if_neg hz, parse_is _ _ (by omega), Option.bind_some]
    have ht := text_parsed n c m x11 h11 (by omega)
    have hsz : x11.size = 12 + m * (x8.size + 1) := by rw [← ch_len x11, h11, List.length_append, manyB_len, ← h8, ch_len]; rfl
    have hx8 : x8.size ≤ 100000 := by omega
    have l3 := many_l3 x8 x11 (PARSE x11).2.2.2.1 (PARSE x11).1 (PARSE x11).2.1 (PARSE x11).2.2.1 m hm hx8 hsz
    have fin : ((64 < m → (PARSE x11).2.2.2.1 = 4) ∧ (m ≤ 64 → (PARSE x11).2.2.2.1 = 0 ∧ (PARSE x11).2.2.1.length = m)) → fairleadlaw10_ParseMany.j5 (k + 1) true x8 x11 (PARSE x11).2.2.2.1 false (PARSE x11).1 (PARSE x11).2.1 (PARSE x11).2.2.1 = some true := by
      intro h
      simp only [fairleadlaw10_ParseMany.j5]
      rw [if_neg (by decide)]
      have := l3 h m k 0 (by omega) (by omega)
      simpa using this
    have bad : (PARSE x11).2.2.2.1 = 4 → fairleadlaw10_ParseMany.j5 (k + 1) true x8 x11 (PARSE x11).2.2.2.1 true (PARSE x11).1 (PARSE x11).2.1 (PARSE x11).2.2.1 = some true := by
      intro h
      simp only [fairleadlaw10_ParseMany.j5]
      rw [if_pos trivial, if_pos trivial, h]
      rfl
    by_cases hr : a0 > 0
    · have h1 := h0.1 hr
      rw [if_pos hr]
      by_cases hn : (n : Int) + 1 > 16
      · rw [if_pos hn]
        exact bad (ht.2 h1 (.inl (by omega)))
      · rw [if_neg hn]
        by_cases hc : (c : Int) > 8
        · rw [decide_eq_true hc]
          exact bad (ht.2 h1 (.inr (.inl (by omega))))
        · rw [decide_eq_false hc]
          exact fin ⟨fun h => ht.2 h1 (.inr (.inr h)), fun h => ht.1 (by omega) (by omega) h⟩
    · rw [if_neg hr]
      have hm0 := h0.2 (by omega)
      subst hm0
      refine fin ⟨fun h => by omega, fun _ => ?_⟩
      have t0 := text_parsed 0 0 0 x11 (by rw [h11]; rfl) (by omega)
      exact t0.1 (by omega) (by omega) (by omega)
theorem size_app (a b : ByteArray) : (a ++ b).size = a.size + b.size := ByteArray.size_append
theorem many_l2 (a0 : Int) (n c : Nat) (h0 : 0 ≤ a0 ∧ a0 ≤ 70) (x8 : ByteArray) (h8 : ch x8 = ruleB n c) (hz8 : x8.size ≤ 1000) (d : Nat) : ∀ (k m : Nat) (x11 : ByteArray), (m : Int) + d = a0 → d + 60001 < k → ch x11 = DEFB ++ manyB (ruleB n c) m → fairleadlaw10_ParseMany.l2 k a0 ((n : Int) + 1) c true x8 x11 m = some true := by
  have hb : 5 ≤ x8.size := by rw [← ch_len, h8]; simp [ruleB]
  induction d with
  | zero =>
    intro k m x11 hm hk h11
    obtain ⟨k, rfl⟩ : ∃ i, k = i + 1 := ⟨k - 1, by omega⟩
    simp only [fairleadlaw10_ParseMany.l2]
    rw [if_neg (by omega)]
    exact many_j4 a0 n c m x8 x11 h8 h11 (by omega) ⟨fun h => by omega, fun h => by omega⟩ hz8 k (by omega)
  | succ d ih =>
    intro k m x11 hm hk h11
    obtain ⟨k, rfl⟩ : ∃ i, k = i + 1 := ⟨k - 1, by omega⟩
    simp only [fairleadlaw10_ParseMany.l2]
    rw [if_pos (by omega)]
    have hsz : x11.size = 12 + m * (x8.size + 1) := by rw [← ch_len x11, h11, List.length_append, manyB_len, ← h8, ch_len]; rfl
    by_cases hs : (x11.size : Int) < 8000
    · have e1 : (⟨#[59]⟩ : ByteArray).size = 1 := rfl
      rw [if_pos hs, if_pos (by omega), if_pos (by rw [size_app]; omega), w64_id (by omega) (by omega)]
      have := ih k (m + 1) ((x11 ++ x8) ++ (⟨#[59]⟩ : ByteArray)) (by omega) (by omega) (by
        rw [ch_app, ch_app, h11, h8, ← manyB_snoc]
        show (_ ++ _ ++ _) ++ [59] = _
        simp only [List.append_assoc])
      rwa [show ((m + 1 : Nat) : Int) = (m : Int) + 1 by omega] at this
    · rw [if_neg hs]
      refine many_j4 a0 n c m x8 x11 h8 h11 (by omega) ⟨fun _ => ?_, fun h => by omega⟩ hz8 k (by omega)
      by_cases h : m = 0
      · subst h; rw [Nat.zero_mul] at hsz; omega
      · omega
def LOGA : List Int := [108, 111, 103, 32, 97]
theorem many_l1 (a0 a2 : Int) (n : Nat) (h0 : 0 ≤ a0 ∧ a0 ≤ 70) (h2 : 0 ≤ a2 ∧ a2 ≤ 12) (hn : n ≤ 20) (d : Nat) : ∀ (k c : Nat) (x8 : ByteArray), (c : Int) + d = a2 → d + 60100 < k → ch x8 = ruleB n c → x8.size ≤ 60 + 12 * c → fairleadlaw10_ParseMany.l1 k a0 ((n : Int) + 1) a2 true x8 c = some true := by
  induction d with
  | zero =>
    intro k c x8 hc hk h8 hz
    obtain ⟨k, rfl⟩ : ∃ i, k = i + 1 := ⟨k - 1, by omega⟩
    simp only [fairleadlaw10_ParseMany.l1]
    have e : a2 = (c : Int) := by omega
    rw [if_neg (by omega), e]
    have := many_l2 a0 n c h0 x8 h8 (by omega) a0.toNat k 0 ⟨#[100, 101, 102, 97, 117, 108, 116, 32, 108, 111, 103, 59]⟩ (by omega) (by omega) rfl
    simpa using this
  | succ d ih =>
    intro k c x8 hc hk h8 hz
    obtain ⟨k, rfl⟩ : ∃ i, k = i + 1 := ⟨k - 1, by omega⟩
    simp only [fairleadlaw10_ParseMany.l1]
    rw [if_pos (by omega), w64_id (by omega) (by omega)]
    cases c with
    | zero =>
      rw [if_pos (show ((0 : Nat) : Int) = 0 from rfl), if_pos (by omega)]
      have := ih k 1 (x8 ++ (⟨#[32, 119, 104, 101, 110, 32, 97, 114, 103, 48, 60, 49]⟩ : ByteArray)) (by omega) (by omega) (by
        rw [ch_app, h8]
        show ruleB n 0 ++ [32, 119, 104, 101, 110, 32, 97, 114, 103, 48, 60, 49] = _
        simp [ruleB, conB, andB]) (by rw [size_app]; show x8.size + 12 ≤ _; omega)
      exact this
    | succ c =>
      rw [if_neg (by omega), if_pos (by omega)]
      have := ih k (c + 2) (x8 ++ (⟨#[32, 97, 110, 100, 32, 97, 114, 103, 48, 60, 49]⟩ : ByteArray)) (by omega) (by omega) (by
        rw [ch_app, h8]
        show ruleB n (c + 1) ++ [32, 97, 110, 100, 32, 97, 114, 103, 48, 60, 49] = _
        simp only [ruleB, List.cons_append, List.append_assoc, conB_snoc]) (by rw [size_app]; show x8.size + 11 ≤ _; omega)
      rwa [show ((c + 2 : Nat) : Int) = ((c + 1 : Nat) : Int) + 1 by omega] at this
theorem many_l0 (a0 a1 a2 : Int) (h0 : 0 ≤ a0 ∧ a0 ≤ 70) (h1 : 1 ≤ a1 ∧ a1 ≤ 20) (h2 : 0 ≤ a2 ∧ a2 ≤ 12) (d : Nat) : ∀ (k n : Nat) (x8 : ByteArray), (n : Int) + 1 + d = a1 → d + 60200 < k → ch x8 = ruleB n 0 → x8.size = 5 + 2 * n → fairleadlaw10_ParseMany.l0 k a0 a1 a2 true x8 ((n : Int) + 1) = some true := by
  induction d with
  | zero =>
    intro k n x8 hn hk h8 hz
    obtain ⟨k, rfl⟩ : ∃ i, k = i + 1 := ⟨k - 1, by omega⟩
    simp only [fairleadlaw10_ParseMany.l0]
    have e : a1 = (n : Int) + 1 := by omega
    rw [if_neg (by omega), e]
    have := many_l1 a0 a2 n h0 h2 (by omega) a2.toNat k 0 x8 (by omega) (by omega) h8 (by omega)
    simpa using this
  | succ d ih =>
    intro k n x8 hn hk h8 hz
    obtain ⟨k, rfl⟩ : ∃ i, k = i + 1 := ⟨k - 1, by omega⟩
    simp only [fairleadlaw10_ParseMany.l0]
    rw [if_pos (by omega), if_pos (by omega), w64_id (by omega) (by omega)]
    have := ih k (n + 1) (x8 ++ (⟨#[44, 97]⟩ : ByteArray)) (by omega) (by omega) (by
      rw [ch_app, h8]
      show ruleB n 0 ++ [44, 97] = _
      simp only [ruleB, conB, List.append_nil, List.cons_append, namB_snoc]) (by rw [size_app]; show x8.size + 2 = _; omega)
    rwa [show ((n + 1 : Nat) : Int) = (n : Int) + 1 by omega] at this
theorem ParseMany : fairleadlaw10_ParseMany.Pure := by
  intro a0 a1 a2 _ _ _
  refine ⟨70000 + 1, ?_⟩
  generalize hK : 70000 = K
  have hk : 70000 ≤ K := by omega
  unfold fairleadlaw10_ParseMany.f
  rw [awake10 (K + 1) (by omega), Option.bind_some]
  have out : fairleadlaw10_ParseMany.j0 (K + 1) a0 a1 a2 true true = some true := by
    simp only [fairleadlaw10_ParseMany.j0]
    rw [if_pos trivial]
  by_cases h1 : a0 < 0
  · rw [if_pos h1]; exact out
  rw [if_neg h1]
  by_cases h2 : a0 > 70
  · rw [if_pos h2]; exact out
  rw [if_neg h2]
  by_cases h3 : a1 < 1
  · rw [if_pos h3]; exact out
  rw [if_neg h3]
  by_cases h4 : a1 > 20
  · rw [if_pos h4]; exact out
  rw [if_neg h4]
  by_cases h5 : a2 < 0
  · rw [if_pos h5]; exact out
  rw [if_neg h5]
  by_cases h6 : a2 > 12
  · rw [decide_eq_true h6]; exact out
  rw [decide_eq_false h6]
  simp only [fairleadlaw10_ParseMany.j0]
  rw [if_neg (by decide)]
  have := many_l0 a0 a1 a2 (by omega) (by omega) (by omega) (a1 - 1).toNat K 0 ⟨#[108, 111, 103, 32, 97]⟩ (by omega) (by omega) rfl rfl
  simpa using this

end Go.Proofs.Ytfahchgglapglaa.Pure
