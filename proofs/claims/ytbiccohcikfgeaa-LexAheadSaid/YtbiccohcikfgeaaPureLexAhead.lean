/- The law LexAhead, as numbers and lists: what the printed functions say of it is true for every input that the row lets in. -/
import Derived.Test.YtbiccohcikfgeaaMx11
import Derived.Test.YtbiccohcikfgeaaAid
import Derived.Test.YtbiccohcikfgeaaL09
import Derived.Test.YtbiccohcikfgeaaL09a
import Derived.Test.YtbiccohcikfgeaaL09b
import Derived.Test.YtbiccohcikfgeaaL09c
import Derived.Test.YtbiccohcikfgeaaL09d
import Derived.Test.YtbiccohcikfgeaaL09e
namespace Go.Proofs.Ytbiccohcikfgeaa.Pure
open Go Go.RowKit Go.Proofs.Ytbiccohcikfgeaa.M Go.Proofs.Ytbiccohcikfgeaa.Aid Go.Proofs.YtbiccohcikfgeaaW.PrintWords Go.Proofs.YtbiccohcikfgeaaW.PrintLast Go.Proofs.YtbiccohcikfgeaaW.PrintMore
set_option linter.unusedVariables false
set_option linter.unusedSimpArgs false

-- IMPORT L09
-- IMPORT L09a
-- IMPORT L09b
-- IMPORT L09c
-- IMPORT L09d
-- IMPORT L09e
theorem ch_app (a b : ByteArray) : ch (a ++ b) = ch a ++ ch b := by
  unfold ch
  rw [ByteArray.data_append, Array.toList_append, List.map_append]
def shift (n : Nat) (t : S31) : S31 := ⟨t.f0, t.f1 + n, t.f2, t.f3⟩
def shiftR (n : Nat) (R : List S31 × Int × Int) : List S31 × Int × Int := (R.1.map (shift n), R.2.1, if R.2.1 = 0 then -1 else R.2.2 + n)
theorem allP_shift (a s : ByteArray) (f : Nat) : ∀ p, p ≤ s.size → s.size - p < f → allP (a ++ s) f (a.size + p) = shiftR a.size (allP s f p) := by
  have hdrop : ∀ p, (ch (a ++ s)).drop (a.size + p) = (ch s).drop p := fun p => by
    rw [ch_app, ← List.drop_drop, List.drop_left' (ch_len a)]
  have hz : (a ++ s).size = a.size + s.size := ByteArray.size_append
  induction f with
  | zero => intro p _ h; omega
  | succ f ih =>
    intro p hp h
    simp only [allP]
    rw [hdrop, Nat.add_assoc a.size p, hdrop, hz]
    by_cases hlt : p < s.size
    · rw [if_pos hlt, if_pos (by omega)]
      by_cases he : (ONE ((ch s).drop p)).2.2.2 = 0
      · have hn := one_len s p hlt he
        have hbl := blankL_le ((ch s).drop (p + (ONE ((ch s).drop p)).2.1)) false
        rw [List.length_drop, ch_len] at hbl
        have hok := allP_ok s f (p + (ONE ((ch s).drop p)).2.1 + blankL ((ch s).drop (p + (ONE ((ch s).drop p)).2.1)) false) (by omega) (by omega)
        rw [if_pos he, if_pos he, Nat.add_assoc a.size, ih (p + (ONE ((ch s).drop p)).2.1 + blankL ((ch s).drop (p + (ONE ((ch s).drop p)).2.1)) false) (by omega) (by omega)]
        have hT : TOK (a ++ s) (a.size + p) = shift a.size (TOK s p) := by
          unfold TOK shift
          rw [hdrop]
          have e : (a ++ s).extract (a.size + p) (a.size + p + (ONE ((ch s).drop p)).2.1) = s.extract p (p + (ONE ((ch s).drop p)).2.1) := by
            apply ch_inj
            rw [ch_extract, ch_extract, List.drop_take, List.drop_take, hdrop, Nat.add_sub_cancel_left, Nat.add_sub_cancel_left]
          rw [e]
          simp only [S31.mk.injEq, true_and, and_true]
          omega
        rw [hT]
        generalize allP s f (p + (ONE ((ch s).drop p)).2.1 + blankL ((ch s).drop (p + (ONE ((ch s).drop p)).2.1)) false) = R at *
        by_cases hr : R.2.1 = 0
        · have : (shiftR a.size R).2.1 = 0 := hr
          rw [if_pos hr, if_pos this]
          unfold shiftR
          simp only [if_pos hr, List.map_cons, if_true]
        · have : ¬ (shiftR a.size R).2.1 = 0 := hr
          rw [if_neg hr, if_neg this]
          unfold shiftR
          simp only [if_neg hr, List.map_nil]
      · rw [if_neg he, if_neg he]
        unfold shiftR
        simp only [if_neg he, List.map_nil, Prod.mk.injEq, true_and]
        omega
    · rw [if_neg hlt, if_neg (by omega)]
      unfold shiftR
      simp only [if_true, List.map_cons, List.map_nil, shift, Prod.mk.injEq, and_true, List.cons.injEq, S31.mk.injEq, true_and]
      omega
theorem ALL_shift (a s : ByteArray) (hb : ∀ l, blankL (ch a ++ l) false = a.size + blankL l false) (hz : a.size + s.size ≤ 8192) : ALL (a ++ s) = shiftR a.size (ALL s) := by
  have hle := blankL_le (ch s) false
  rw [ch_len] at hle
  unfold ALL
  rw [if_neg (by rw [ByteArray.size_append]; omega), if_neg (by omega)]
  rw [ch_app, hb, allP_fuel (a ++ s) ((a ++ s).size + 1) (s.size + 1) _ (by rw [ByteArray.size_append]; omega) (by omega) (by rw [ByteArray.size_append]; omega), allP_shift a s (s.size + 1) _ hle (by omega)]
  generalize allP s (s.size + 1) (blankL (ch s) false) = R
  unfold fin shiftR
  by_cases hr : R.2.1 = 0
  · simp only [if_pos hr, if_true, List.nil_append]
  · simp only [if_neg hr, List.map_nil]
theorem allP_at (s : ByteArray) (f : Nat) : ∀ p, p ≤ s.size → s.size - p < f → ∀ t ∈ (allP s f p).1, 0 ≤ t.f1 ∧ t.f1 ≤ s.size := by
  induction f with
  | zero => intro p _ h; omega
  | succ f ih =>
    intro p hp h
    simp only [allP]
    by_cases hlt : p < s.size
    · rw [if_pos hlt]
      by_cases he : (ONE ((ch s).drop p)).2.2.2 = 0
      · have hn := one_len s p hlt he
        have hbl := blankL_le ((ch s).drop (p + (ONE ((ch s).drop p)).2.1)) false
        rw [List.length_drop, ch_len] at hbl
        rw [if_pos he]
        by_cases hr : (allP s f (p + (ONE ((ch s).drop p)).2.1 + blankL ((ch s).drop (p + (ONE ((ch s).drop p)).2.1)) false)).2.1 = 0
        · rw [if_pos hr]
          intro t ht
          rcases List.mem_cons.1 ht with rfl | ht
          · exact ⟨by show (0 : Int) ≤ (p : Int); omega, by show (p : Int) ≤ _; omega⟩
          · exact ih _ (by omega) (by omega) t ht
        · rw [if_neg hr]
          intro t ht
          cases ht
      · rw [if_neg he]
        intro t ht
        cases ht
    · rw [if_neg hlt]
      intro t ht
      rcases List.mem_cons.1 ht with rfl | ht
      · exact ⟨by show (0 : Int) ≤ (s.size : Int); omega, Int.le_refl _⟩
      · cases ht
theorem ALL_at (s : ByteArray) : (∀ t ∈ (ALL s).1, 0 ≤ t.f1 ∧ t.f1 ≤ s.size) ∧ ((ALL s).2.1 = 0 → (ALL s).2.2 = -1) ∧ ((ALL s).2.1 ≠ 0 → 0 ≤ (ALL s).2.2 ∧ (ALL s).2.2 ≤ s.size) := by
  have hle := blankL_le (ch s) false
  rw [ch_len] at hle
  have h1 := allP_at s (s.size + 1) _ hle (by omega)
  have h2 := allP_ok s (s.size + 1) _ hle (by omega)
  have h3 := allP_bad s (s.size + 1) _ hle (by omega)
  unfold ALL
  split
  · exact ⟨fun t ht => (by cases ht), fun e => absurd (show (4 : Int) = 0 from e) (by decide), fun _ => ⟨Int.le_refl _, by show (0 : Int) ≤ _; omega⟩⟩
  · generalize allP s (s.size + 1) (blankL (ch s) false) = R at *
    unfold fin
    by_cases hr : R.2.1 = 0
    · rw [if_pos hr]
      exact ⟨fun t ht => h1 t (by rwa [List.nil_append] at ht), fun _ => (h2 hr).1, fun e => absurd rfl e⟩
    · rw [if_neg hr]
      have := h3 hr
      exact ⟨fun t ht => (by cases ht), fun e => absurd e hr, fun _ => ⟨show (0 : Int) ≤ R.2.2 by omega, show R.2.2 ≤ (s.size : Int) by omega⟩⟩
theorem ahead_loop (l : List S31) (hl : l.length ≤ 100000) (ha : ∀ t ∈ l, 0 ≤ t.f1 ∧ t.f1 ≤ 100000) (x : ByteArray) (hx : x.size ≤ 100000) (d : Nat) : ∀ (k i : Nat), i + d = l.length → d + l.length + 5 < k →
    fairleadlaw09_LexAhead.l1 k true x ((l.take i).map (shift x.size) ++ l.drop i) (l.map (shift x.size)) i = some true := by
  induction d with
  | zero =>
    intro k i hi hk
    obtain ⟨k, rfl⟩ : ∃ m, k = m + 1 := ⟨k - 1, by omega⟩
    have e : (l.take i).map (shift x.size) ++ l.drop i = l.map (shift x.size) := by rw [List.take_of_length_le (by omega), List.drop_of_length_le (by omega), List.append_nil]
    rw [e]
    simp only [fairleadlaw09_LexAhead.l1]
    rw [if_neg (by rw [List.length_map]; omega), same9 _ (by rw [List.length_map]; omega) k (by rw [List.length_map]; omega), Option.bind_some, if_pos trivial]
  | succ d ih =>
    intro k i hi hk
    obtain ⟨k, rfl⟩ : ∃ m, k = m + 1 := ⟨k - 1, by omega⟩
    have hi' : i < l.length := by omega
    have hlen : ((l.take i).map (shift x.size)).length = i := by rw [List.length_map, List.length_take]; omega
    have hd := List.drop_eq_getElem_cons hi'
    have hrd : rd_T31 ((l.take i).map (shift x.size) ++ l.drop i) i = l[i] := by
      unfold rd_T31
      rw [Int.toNat_natCast, List.getD_eq_getElem?_getD, List.getElem?_append_right (by omega), hlen, Nat.sub_self, hd]
      rfl
    have hat := ha l[i] (List.getElem_mem hi')
    have ei : wrap64 ((i : Int) + 1) = ((i + 1 : Nat) : Int) := by rw [w64_id (by omega) (by omega)]; omega
    simp only [fairleadlaw09_LexAhead.l1]
    rw [if_pos (by rw [List.length_append, hlen, List.length_drop]; omega), if_pos (by omega), hrd, ei, w64_id (x := l[i].f1 + (x.size : Int)) (by omega) (by omega), Int.toNat_natCast]
    have e : ((l.take i).map (shift x.size) ++ l.drop i).set i ⟨l[i].f0, l[i].f1 + (x.size : Int), l[i].f2, l[i].f3⟩ = (l.take (i + 1)).map (shift x.size) ++ l.drop (i + 1) := by
      rw [List.set_append_right _ _ (by omega), hlen, Nat.sub_self, hd, List.set_cons_zero, ← List.take_append_getElem hi', List.map_append, List.append_assoc]
      rfl
    rw [e]
    exact ih k (i + 1) (by omega) (by omega)
theorem blank_nl (m : Nat) (l : List Int) : blankL (List.replicate m 10 ++ l) false = m + blankL l false := by
  induction m with
  | zero => simp
  | succ m ih =>
    rw [List.replicate_succ, List.cons_append]
    simp only [blankL]
    rw [if_neg (by decide), if_pos (by decide), ih]
    omega
theorem nl_loop (s : ByteArray) (hz : s.size ≤ 4000) (n : Int) (hn : 0 ≤ n) (d : Nat) : ∀ (k i : Nat) (x : ByteArray), (i : Int) + d = Int.tmod n 30 → d + 200000 < k → ch x = List.replicate i 10 → fairleadlaw09_LexAhead.l0 k s n true x i = some true := by
  have hm : 0 ≤ Int.tmod n 30 ∧ Int.tmod n 30 < 30 := by rw [Int.tmod_eq_emod_of_nonneg hn]; omega
  induction d with
  | zero =>
    intro k i x hi hk hx
    obtain ⟨k, rfl⟩ : ∃ m, k = m + 2 := ⟨k - 2, by omega⟩
    have hxs : x.size = i := by rw [← ch_len, hx, List.length_replicate]
    have hAl := ALL_len s
    have hAt := ALL_at s
    generalize hA : x ++ ⟨#[35, 32, 97, 10]⟩ = A
    have hAs : A.size = i + 4 := by rw [← hA, ByteArray.size_append, hxs]; rfl
    have hAb : ∀ l, blankL (ch A ++ l) false = A.size + blankL l false := fun l => by
      rw [hAs, ← hA, ch_app, hx, List.append_assoc, blank_nl]
      have : blankL (ch ⟨#[35, 32, 97, 10]⟩ ++ l) false = 4 + blankL l false := by
        show blankL (35 :: 32 :: 97 :: 10 :: l) false = 4 + blankL l false
        simp only [blankL]
        rw [if_pos trivial]
        show 1 + (1 + (1 + (1 + blankL l false))) = _
        omega
      rw [this]
      omega
    have hsh := ALL_shift A s hAb (by omega)
    simp only [fairleadlaw09_LexAhead.l0]
    rw [if_neg (by omega), if_pos (by omega), hA, all_is s _ (by omega), Option.bind_some, if_pos (by omega), all_is _ _ (by omega), Option.bind_some, hsh]
    unfold shiftR
    have hlp := ahead_loop (ALL s).1 (by omega) (fun t ht => by have := hAt.1 t ht; omega) A (by omega) (ALL s).1.length k 0 (by omega) (by omega)
    rw [List.take_zero, List.map_nil, List.nil_append, List.drop_zero, Int.natCast_zero] at hlp
    rw [if_pos rfl, if_pos (by rw [List.length_map])]
    by_cases he : (ALL s).2.1 = 0
    · simp only [if_pos he]
      simp only [fairleadlaw09_LexAhead.j2]
      rw [if_neg (by decide)]
      exact hlp
    · have := hAt.2.2 he
      simp only [if_neg he]
      rw [w64_id (by omega) (by omega), if_pos rfl]
      simp only [fairleadlaw09_LexAhead.j2]
      rw [if_neg (by decide)]
      exact hlp
  | succ d ih =>
    intro k i x hi hk hx
    obtain ⟨k, rfl⟩ : ∃ m, k = m + 1 := ⟨k - 1, by omega⟩
    have hxs : x.size = i := by rw [← ch_len, hx, List.length_replicate]
    have ei : wrap64 ((i : Int) + 1) = ((i + 1 : Nat) : Int) := by rw [w64_id (by omega) (by omega)]; omega
    simp only [fairleadlaw09_LexAhead.l0]
    rw [if_pos (by omega), if_pos (by omega), ei]
    exact ih k (i + 1) _ (by omega) (by omega) (by rw [ch_app, hx, List.replicate_succ']; rfl)
theorem LexAhead : fairleadlaw09_LexAhead.Pure := by
  intro s n _ hn
  refine ⟨400000 + 0, ?_⟩
  generalize hK : 400000 + 0 = K
  obtain ⟨k, rfl⟩ : ∃ m, K = m + 1 := ⟨K - 1, by omega⟩
  have hk : 300000 ≤ k := by omega
  clear hK
  unfold fairleadlaw09_LexAhead.f
  rw [awake09 _ (by omega), Option.bind_some]
  by_cases h : (s.size : Int) > 4000
  · rw [if_pos h]
    simp only [fairleadlaw09_LexAhead.j0]
    rw [if_pos trivial]
  · rw [if_neg h]
    simp only [fairleadlaw09_LexAhead.j0]
    by_cases h2 : n < 0
    · rw [if_pos (decide_eq_true h2)]
    · rw [if_neg (fun e => h2 (of_decide_eq_true e))]
      have hm : 0 ≤ Int.tmod n 30 ∧ Int.tmod n 30 < 30 := by rw [Int.tmod_eq_emod_of_nonneg (by omega)]; omega
      have := nl_loop s (by omega) n (by omega) (Int.tmod n 30).toNat k 0 ⟨#[]⟩ (by omega) (by omega) rfl
      rwa [Int.natCast_zero] at this

end Go.Proofs.Ytbiccohcikfgeaa.Pure
