/- The law ParseCut, as numbers and lists: what the printed functions say of it is true for every input that the row lets in. -/
import Derived.Test.YtfahchgglapglaaMx18
import Derived.Test.YtfahchgglapglaaAid
import Derived.Test.YtfahchgglapglaaK09
import Derived.Test.YtfahchgglapglaaK10
import Derived.Test.YtfahchgglapglaaL10f
import Derived.Test.YtfahchgglapglaaM09g
namespace Go.Proofs.Ytfahchgglapglaa.Pure
open Go Go.RowKit Go.Proofs.Ytfahchgglapglaa.M Go.Proofs.Ytfahchgglapglaa.Aid Go.Proofs.YtfahchgglapglaaW.PrintWords Go.Proofs.YtfahchgglapglaaW.PrintLast Go.Proofs.YtfahchgglapglaaW.PrintMore
set_option linter.unusedVariables false
set_option linter.unusedSimpArgs false

-- IMPORT K09
-- IMPORT K10
-- IMPORT L10f
-- IMPORT M09g
theorem run_nil {ts r : List S39} (h : Run ts [] r) : ts = r := by cases h; rfl
/-- A run's last ; is needed. -/
theorem run_cut {ts : List S39} {xs : List S44} {r : List S39} (h : Run ts xs r) : xs ≠ [] → ∃ c s, semiT s ∧ ts = c ++ s :: r ∧ ∀ (e' : S39) (r2 : List S39) (f : Nat) (rs : List S44), e'.f0 = 4 → (c ++ e' :: r2).length < f → rs.length + xs.length ≤ 64 → rulesP f rs (c ++ e' :: r2) = .bad 7 e'.f1 := by
  induction h with
  | nil ts => intro h; exact absurd rfl h
  | @cons t ts x r1 xs r' h4 hr k ih =>
    intro _
    obtain ⟨c1, s, hs, g1, g2, g3⟩ := rule_loc true _ _ _ hr
    have hc1 : ∃ c1', c1 = t :: c1' := by
      cases c1 with
      | nil =>
        simp only [List.nil_append, List.cons.injEq] at g1
        have := (rule_head hr).1
        have := hs.1
        rw [← g1.1] at this
        omega
      | cons v c1 =>
        simp only [List.cons_append, List.cons.injEq] at g1
        exact ⟨c1, by rw [g1.1]⟩
    obtain ⟨c1', rfl⟩ := hc1
    cases xs with
    | nil =>
      have := run_nil k
      subst this
      refine ⟨t :: c1', s, hs, g1, fun e' r2 f rs he hf hl => ?_⟩
      obtain ⟨f, rfl⟩ : ∃ m, f = m + 1 := ⟨f - 1, by omega⟩
      have := g3 e' r2 he
      simp only [List.cons_append, List.length_cons, List.length_nil] at this hl ⊢
      simp only [rulesP]
      rw [if_neg h4, decide_eq_true (show (rs.length : Int) < 64 by omega), this, thenP_bad]
    | cons y ys =>
      obtain ⟨c2, s2, hs2, e1, e2⟩ := ih (by simp)
      refine ⟨(t :: c1') ++ s :: c2, s2, hs2, by rw [g1, e1]; simp, fun e' r2 f rs he hf hl => ?_⟩
      obtain ⟨f, rfl⟩ : ∃ m, f = m + 1 := ⟨f - 1, by omega⟩
      have := g2 (c2 ++ e' :: r2)
      simp only [List.cons_append, List.append_assoc, List.length_cons, List.length_append] at this hl hf ⊢
      simp only [rulesP]
      rw [if_neg h4, decide_eq_true (show (rs.length : Int) < 64 by omega), this, thenP_ok]
      exact e2 e' r2 f (rs ++ [x]) he (by simp; omega) (by simp; omega)
theorem cut_bad {ts : List S39} {x : Int × Int × List S44} (hG : Good ts) (h : parseP ts = .ok x) : ∃ b s e, ts = b ++ [s, e] ∧ semiT s ∧ ∀ e' : S39, e'.f0 = 4 → parseP (b ++ [e']) = .bad 7 e'.f1 := by
  obtain ⟨⟨d, ca, s, cr, e, h1, hd, hs, he, ha, hr, hl⟩, hle⟩ := parsed_of hG h
  have start : ∀ r : List S39, parseP (d :: (ca ++ r)) = thenP (semiP r) fun r => thenP (rulesP (r.length + 1) [] r) fun rs => .ok (x.1, x.2.1, rs) := by
    intro r
    simp only [parseP]
    rw [if_pos hd, ha r, thenP_ok]
  by_cases hx : x.2.2 = []
  · rw [hx] at hr
    have hcr : cr = [] := by have := run_nil (hr []); simpa using this
    subst hcr
    refine ⟨d :: ca, s, e, by rw [h1]; simp, hs, fun e' he' => ?_⟩
    have := start [e']
    simp only [List.cons_append] at this ⊢
    rw [this]
    simp only [semiP]
    rw [if_neg (end_not he').2.2.2, thenP_bad]
  · obtain ⟨c, s2, hs2, e1, e2⟩ := run_cut (hr [e]) hx
    have hcr : cr = c ++ [s2] := by
      have : cr ++ [e] = (c ++ [s2]) ++ [e] := by rw [e1]; simp
      exact List.append_cancel_right this
    refine ⟨d :: (ca ++ s :: c), s2, e, by rw [h1, hcr]; simp, hs2, fun e' he' => ?_⟩
    have := start (s :: (c ++ [e']))
    simp only [List.cons_append, List.append_assoc] at this ⊢
    rw [this]
    simp only [semiP]
    rw [if_pos hs, thenP_ok, e2 e' [] _ [] he' (Nat.lt_succ_self _) (by simpa using hle), thenP_bad]
theorem cut_end (s : ByteArray) (h0 : (ALL s).2.1 = 0) (hp : (PARSE s).2.2.2.1 = 0) : ∃ (n : Nat) (q : Nat), (ALL s).1.length = n + 2 ∧ (rd_T39 (ALL s).1 n).f2 = ⟨#[59]⟩ ∧ (rd_T39 (ALL s).1 n).f1 = (q : Int) ∧ q ≤ s.size ∧ PARSE (s.extract 0 q) = (0, 0, [], 7, (q : Int)) := by
  have hG := (ALL_good s h0).1
  obtain ⟨x, hx, _⟩ := (PARSE_read s hp).2
  obtain ⟨b, t, e, h1, h2, h3⟩ := cut_bad hG hx
  obtain ⟨q, g1, g2, g3⟩ := ALL_cut s h0 b t [e] (by rw [h1])
  refine ⟨b.length, q, by rw [h1]; simp, ?_, ?_, g2, ?_⟩
  · rw [h1]; unfold rd_T39; simp; exact h2.2
  · rw [h1]; unfold rd_T39; simp; exact g1
  · unfold PARSE
    rw [g3, if_pos rfl, h3 ⟨4, (q : Int), ⟨#[]⟩, 0⟩ rfl]
theorem ParseCut : fairleadlaw10_ParseCut.Pure := by
  intro s _
  refine ⟨60000 + 1, ?_⟩
  generalize hK : 60000 = K
  have hk : 60000 ≤ K := by omega
  unfold fairleadlaw10_ParseCut.f
  rw [awake10 (K + 1) (by omega), Option.bind_some]
  by_cases h : (s.size : Int) > 8192
  · rw [if_pos h]
  · rw [if_neg h, parse_is s (K + 1) (by omega), all_is s (K + 1) (by omega), Option.bind_some, Option.bind_some]
    by_cases hp : (PARSE s).2.2.2.1 = 0
    · rw [if_pos hp]
      by_cases h0 : (ALL s).2.1 = 0
      · obtain ⟨n, q, g1, g2, g3, g4, g5⟩ := cut_end s h0 hp
        have hl := ALL_len s
        have e1 : wrap64 (((ALL s).1.length : Int) - 2) = (n : Int) := by rw [w64_id (by omega) (by omega)]; omega
        rw [h0]
        simp only [fairleadlaw10_ParseCut.j0]
        rw [if_neg (by decide), if_neg (by omega), e1, if_pos (by omega), if_pos (by omega), g2, if_pos (by rw [toList_is]), g3, if_pos (by omega), if_pos (by omega), Int.toNat_natCast, parse_is _ K (by omega), Option.bind_some, g5, if_pos trivial]
        simp
      · exfalso
        unfold PARSE at hp
        rw [if_neg h0] at hp
        exact h0 hp
    · rw [if_neg hp]
      simp only [fairleadlaw10_ParseCut.j0]
      rw [if_pos trivial, if_pos trivial]
      by_cases h0 : (ALL s).2.1 = 0
      · rw [h0, if_neg hp]; rfl
      · rw [if_pos (by unfold PARSE; rw [if_neg h0])]

end Go.Proofs.Ytfahchgglapglaa.Pure
