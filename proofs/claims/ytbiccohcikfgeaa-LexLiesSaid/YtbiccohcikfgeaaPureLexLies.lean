/- The law LexLies, as numbers and lists: what the printed functions say of it is true for every input that the row lets in. -/
import Derived.Test.YtbiccohcikfgeaaMx9
import Derived.Test.YtbiccohcikfgeaaAid
import Derived.Test.YtbiccohcikfgeaaL09
import Derived.Test.YtbiccohcikfgeaaL09a
import Derived.Test.YtbiccohcikfgeaaL09b
import Derived.Test.YtbiccohcikfgeaaL09c
import Derived.Test.YtbiccohcikfgeaaL09d
import Derived.Test.YtbiccohcikfgeaaL09e
namespace Go.Proofs.Ytbiccohcikfgeaa.Pure
open Go Go.RowKit Go.Proofs.Ytbiccohcikfgeaa.M Go.Proofs.Ytbiccohcikfgeaa.Aid Go.Proofs.YtbiccohcikfgeaaW.PrintWords Go.Proofs.YtbiccohcikfgeaaW.PrintLast Go.Proofs.YtbiccohcikfgeaaW.PrintMore
set_option linter.unusedVariables false
set_option linter.unusedSimpArgs false

-- IMPORT L09
-- IMPORT L09a
-- IMPORT L09b
-- IMPORT L09c
-- IMPORT L09d
-- IMPORT L09e
/-- Tokens that lie in a text, one behind the other. -/
def lies (s : ByteArray) : Nat → List S31 → Prop
  | _, [] => False
  | last, t :: r => (r = [] ∧ t = ⟨4, (s.size : Int), ⟨#[]⟩, 0⟩ ∧ last ≤ s.size) ∨ (r ≠ [] ∧ ∃ p n : Nat, t.f1 = (p : Int) ∧ t.f2 = s.extract p (p + n) ∧ last ≤ p ∧ 1 ≤ n ∧ p + n ≤ s.size ∧ t.f0 ≠ 4 ∧ (t.f3 = 0 ∨ t.f0 = 2) ∧ lies s (p + n) r)
theorem one_kind (l : List Int) (he : (ONE l).2.2.2 = 0) : (ONE l).1 ≠ 4 ∧ ((ONE l).2.2.1 = 0 ∨ (ONE l).1 = 2) := by
  unfold ONE at he ⊢
  split at he
  · rename_i h
    rw [if_pos h]
    exact ⟨by show (1 : Int) ≠ 4; decide, .inl rfl⟩
  · rename_i h
    rw [if_neg h]
    split at he
    · rename_i h2
      rw [if_pos h2]
      revert he
      cases NUM (l.take (lenL l)) with
      | none => intro h; exact absurd (show (6 : Int) = 0 from h) (by decide)
      | some v => intro _; exact ⟨by show (2 : Int) ≠ 4; decide, .inr rfl⟩
    · rename_i h2
      rw [if_neg h2]
      split at he
      · rename_i h3
        rw [if_pos h3]
        exact ⟨by show (3 : Int) ≠ 4; decide, .inl rfl⟩
      · exact absurd (show (5 : Int) = 0 from he) (by decide)
theorem allP_lies (s : ByteArray) (f : Nat) : ∀ p last, last ≤ p → p ≤ s.size → s.size - p < f → (allP s f p).2.1 = 0 → lies s last (allP s f p).1 := by
  induction f with
  | zero => intro p last _ _ h; omega
  | succ f ih =>
    intro p last hl hp h h0
    simp only [allP] at h0 ⊢
    by_cases hlt : p < s.size
    · rw [if_pos hlt] at h0 ⊢
      by_cases he : (ONE ((ch s).drop p)).2.2.2 = 0
      · have hn := one_len s p hlt he
        have hk := one_kind _ he
        have hbl := blankL_le ((ch s).drop (p + (ONE ((ch s).drop p)).2.1)) false
        rw [List.length_drop, ch_len] at hbl
        rw [if_pos he] at h0 ⊢
        by_cases hr : (allP s f (p + (ONE ((ch s).drop p)).2.1 + blankL ((ch s).drop (p + (ONE ((ch s).drop p)).2.1)) false)).2.1 = 0
        · rw [if_pos hr]
          have h2 := ih (p + (ONE ((ch s).drop p)).2.1 + blankL ((ch s).drop (p + (ONE ((ch s).drop p)).2.1)) false) (p + (ONE ((ch s).drop p)).2.1) (by omega) (by omega) (by omega) hr
          have h3 := (allP_ok s f _ (by omega) (by omega) hr).2
          exact .inr ⟨h3, p, (ONE ((ch s).drop p)).2.1, rfl, rfl, hl, hn.1, hn.2, hk.1, hk.2, h2⟩
        · rw [if_neg hr] at h0
          exact absurd h0 hr
      · rw [if_neg he] at h0
        exact absurd h0 he
    · rw [if_neg hlt]
      exact .inl ⟨rfl, rfl, by omega⟩
theorem rd_at {l : List S31} {i : Nat} {t : S31} {r : List S31} (h : l.drop i = t :: r) : rd_T31 l i = t ∧ l.length = i + 1 + r.length ∧ l.drop (i + 1) = r := by
  have hlen : (l.drop i).length = r.length + 1 := by rw [h]; rfl
  rw [List.length_drop] at hlen
  have hi : i < l.length := by omega
  have h2 := List.drop_eq_getElem_cons hi
  rw [h] at h2
  refine ⟨?_, by omega, ?_⟩
  · unfold rd_T31
    rw [Int.toNat_natCast, List.getD_eq_getElem?_getD, List.getElem?_eq_getElem hi]
    exact (List.cons.inj h2).1.symm
  · exact (List.cons.inj h2).2.symm
theorem nil_list {s : ByteArray} : (s.toList == ([] : List UInt8)) = decide (s.size = 0) := by
  rw [Bool.eq_iff_iff, beq_iff_eq, decide_eq_true_eq]
  exact nil_size s
theorem lies_loop (s : ByteArray) (hz : s.size ≤ 100000) (l : List S31) (hl : l.length ≤ 100000) (d : Nat) : ∀ (k i last : Nat), i + d = l.length → 2 * d + 2 < k → lies s last (l.drop i) → fairleadlaw09_LexLies.l0 k s true l (-1) last i = some true := by
  induction d with
  | zero =>
    intro k i last hi _ h
    rw [List.drop_of_length_le (by omega)] at h
    exact absurd h (by unfold lies; exact id)
  | succ d ih =>
    intro k i last hi hk h
    obtain ⟨k, rfl⟩ : ∃ m, k = m + 2 := ⟨k - 2, by omega⟩
    obtain ⟨t, r, htr⟩ := List.exists_cons_of_ne_nil (show l.drop i ≠ [] from fun e => by rw [e] at h; exact absurd h (by unfold lies; exact id))
    obtain ⟨h1, h2, h3⟩ := rd_at htr
    rw [htr] at h
    have ew : wrap64 ((l.length : Int) - 1) = (l.length : Int) - 1 := w64_id (by omega) (by omega)
    have ei : wrap64 ((i : Int) + 1) = ((i + 1 : Nat) : Int) := by rw [w64_id (by omega) (by omega)]; omega
    have j1ok : ∀ last' : Nat, wrap64 (t.f1 + (t.f2.size : Int)) = last' → (t.f0 = 4 ↔ (i : Int) = (l.length : Int) - 1) → (t.f2.size = 0 ↔ t.f0 = 4) → (t.f3 = 0 ∨ t.f0 = 2) → fairleadlaw09_LexLies.l0 k s true l (-1) last' ((i + 1 : Nat) : Int) = some true → fairleadlaw09_LexLies.j1 (k + 1) s true l (-1) i false t.f0 t.f1 t.f2 t.f3 = some true := by
      intro last' e1 e2 e3 e4 e5
      simp only [fairleadlaw09_LexLies.j1]
      rw [if_neg (by decide), ew, e1, ei, nil_list]
      have a1 : ((t.f0 == 4) != ((i : Int) == (l.length : Int) - 1)) = false := by
        rw [bne_eq_false_iff_eq, Bool.eq_iff_iff, beq_iff_eq, beq_iff_eq]; exact e2
      have a2 : (decide (t.f2.size = 0) != (t.f0 == 4)) = false := by
        rw [bne_eq_false_iff_eq, Bool.eq_iff_iff, beq_iff_eq, decide_eq_true_eq]; exact e3
      rw [a1, a2, if_neg (by decide), if_neg (by decide)]
      by_cases hq : t.f3 = 0
      · rw [if_pos hq, e5]
      · rw [if_neg hq, if_pos (by omega), e5]
    unfold lies at h
    rcases h with ⟨hr, ht, hlast⟩ | ⟨hr, p, n, e1, e2, e3, e4, e5, e6, e7, e8⟩
    · -- the end
      have hj := j1ok s.size (by rw [ht]; show wrap64 ((s.size : Int) + ((0 : Nat) : Int)) = _; rw [w64_id (by omega) (by omega)]; omega) (by rw [ht, h2, hr]; simp) (by rw [ht]; exact ⟨fun _ => rfl, fun _ => rfl⟩) (by rw [ht]; exact .inl rfl) (by
        obtain ⟨k, rfl⟩ : ∃ m, k = m + 1 := ⟨k - 1, by omega⟩
        rw [hr] at h2
        simp only [List.length_nil] at h2
        simp only [fairleadlaw09_LexLies.l0]
        rw [if_neg (by omega), if_pos trivial, if_pos trivial, ew, if_pos (by omega), if_pos (by omega), if_pos (by omega), show (l.length : Int) - 1 = (i : Int) by omega, h1, ht]
        simp)
      simp only [fairleadlaw09_LexLies.l0]
      rw [h1, if_pos (by omega), if_pos (by omega)]
      have f1 : t.f1 = s.size := by rw [ht]
      have f2 : t.f2 = ⟨#[]⟩ := by rw [ht]
      have f2s : t.f2.size = 0 := by rw [f2]; rfl
      rw [if_neg (by omega), if_neg (by omega), f1, f2s, w64_id (x := (s.size : Int) - s.size) (by omega) (by omega), if_neg (by omega), w64_id (x := (s.size : Int) + (0 : Nat)) (by omega) (by omega), if_pos (by omega), if_pos (by omega), if_pos (by omega)]
      rw [f1] at hj
      rw [show ((s.extract ((s.size : Int)).toNat ((s.size : Int) + (0 : Nat)).toNat).toList != t.f2.toList) = false from by
        rw [bne_eq_false_iff_eq, show ((s.size : Int) + (0 : Nat)).toNat = s.size by omega, Int.toNat_natCast, extract_nil, f2]]
      exact hj
    · have hsz : t.f2.size = n := by rw [e2]; exact ext_size s p n e5
      have h4 : 1 ≤ r.length := by cases r with
        | nil => exact absurd rfl hr
        | cons => simp
      have hj := j1ok (p + n) (by rw [e1, hsz, w64_id (by omega) (by omega)]; omega) ⟨fun e => absurd e e6, fun e => by omega⟩ ⟨fun e => by omega, fun e => absurd e e6⟩ e7 (ih k (i + 1) (p + n) (by omega) (by omega) (by rw [h3]; exact e8))
      simp only [fairleadlaw09_LexLies.l0]
      rw [h1, if_pos (by omega), if_pos (by omega), e1, hsz]
      rw [if_neg (by omega), if_neg (by omega), w64_id (x := (s.size : Int) - p) (by omega) (by omega), if_neg (by omega), w64_id (x := (p : Int) + n) (by omega) (by omega), if_pos (by omega), if_pos (by omega), if_pos (by omega)]
      rw [show ((s.extract ((p : Int)).toNat ((p : Int) + n).toNat).toList != t.f2.toList) = false from by
        rw [bne_eq_false_iff_eq, show ((p : Int) + n).toNat = p + n by omega, Int.toNat_natCast, e2]]
      rw [e1] at hj
      exact hj
theorem LexLies : fairleadlaw09_LexLies.Pure := by
  intro s _
  refine ⟨40000 + 0, ?_⟩
  generalize hK : 40000 + 0 = K
  have hk : 40000 ≤ K := by omega
  have hl := ALL_len s
  unfold fairleadlaw09_LexLies.f
  rw [awake09 K hk, Option.bind_some, all_is s K hk]
  simp only [Option.bind_some]
  unfold ALL at hl ⊢
  by_cases h : 8192 < s.size
  · rw [if_pos (by omega), if_pos h]
    simp
  · have hb := blankL_le (ch s) false
    rw [ch_len] at hb
    rw [if_neg h] at hl
    rw [if_neg (by omega), if_neg h]
    unfold fin at hl ⊢
    by_cases he : (allP s (s.size + 1) (blankL (ch s) false)).2.1 = 0
    · have h1 := allP_ok s _ _ hb (by omega) he
      have h2 := allP_lies s (s.size + 1) (blankL (ch s) false) 0 (by omega) hb (by omega) he
      rw [if_pos he] at hl
      rw [if_pos he, if_pos rfl, h1.1, List.nil_append]
      have hl : (allP s (s.size + 1) (blankL (ch s) false)).1.length ≤ 8193 := by rw [List.nil_append] at hl; exact hl
      have := lies_loop s (by omega) (allP s (s.size + 1) (blankL (ch s) false)).1 (by omega) _ K 0 0 (Nat.zero_add _) (by omega) (by rw [List.drop_zero]; exact h2)
      rwa [Int.natCast_zero] at this
    · have h1 := allP_bad s _ _ hb (by omega) he
      rw [if_neg he, if_neg he, if_pos trivial]
      show (if (([] : List S31).length : Int) = 0 then _ else _) = _
      rw [if_pos (by rfl)]
      show (if (allP s (s.size + 1) (blankL (ch s) false)).2.2 ≥ 0 then _ else _) = _
      rw [if_pos (by omega)]
      show (if (allP s (s.size + 1) (blankL (ch s) false)).2.2 < _ then _ else _) = _
      rw [if_pos h1.2.2.2]
      show (if (allP s (s.size + 1) (blankL (ch s) false)).2.1 = 5 then _ else some ((allP s (s.size + 1) (blankL (ch s) false)).2.1 == 6)) = _
      by_cases h5 : (allP s (s.size + 1) (blankL (ch s) false)).2.1 = 5
      · rw [if_pos h5]
      · rw [if_neg h5]
        rw [show (allP s (s.size + 1) (blankL (ch s) false)).2.1 = 6 by omega]
        rfl

end Go.Proofs.Ytbiccohcikfgeaa.Pure
