/- The law ActLeast, as numbers and lists: what the printed functions say of it is true for every input that the row lets in. -/
import Derived.Test.YtleegkeoggbkhaaMx8
import Derived.Test.YtleegkeoggbkhaaAid
import Derived.Test.YtleegkeoggbkhaaL07
import Derived.Test.YtleegkeoggbkhaaL07m
namespace Go.Proofs.Ytleegkeoggbkhaa.Pure
open Go Go.RowKit Go.Proofs.Ytleegkeoggbkhaa.M Go.Proofs.Ytleegkeoggbkhaa.Aid Go.Proofs.YtleegkeoggbkhaaW.PrintWords Go.Proofs.YtleegkeoggbkhaaW.PrintLast Go.Proofs.YtleegkeoggbkhaaW.PrintMore
set_option linter.unusedVariables false
set_option linter.unusedSimpArgs false

-- IMPORT L07
-- IMPORT L07m
theorem least_loop (l : List Int) (ho : ∀ x ∈ l, 0 ≤ x ∧ x ≤ 4294967295) (hl : l.length ≤ 2000) (m : Int) (hm : ∀ x ∈ l, kindV m ≤ kindV x) (hmr : 0 ≤ m ∧ m ≤ 4294967295) (d : Nat) : ∀ (i : Nat) (b : Bool), i + d = l.length →
    Ev (fun k => fairleadlaw07_ActLeast.l0 k l true m b i) (b || decide (m ∈ l.drop i)) := by
  have w : ∀ j : Nat, j < l.length → wrap64 ((j : Int) + 1) = ((j + 1 : Nat) : Int) := fun j hj => by unfold wrap64; omega
  induction d with
  | zero =>
    intro i b hi
    refine Ev.step (f := fun _ => some b) (fun k => ?_) ?_
    · simp only [fairleadlaw07_ActLeast.l0]
      rw [if_neg (by omega)]
      rfl
    · rw [List.drop_of_length_le (by omega)]
      simpa using Ev.now b
  | succ d ih =>
    intro i b hi
    have hr := ho _ (rd_mem l i (by omega))
    have hk := hm _ (rd_mem l i (by omega))
    refine Ev.step (f := fun k => (act_Of.f k (rd l i)).bind fun bt180 => ((act_Of.f k m).bind fun bt182 => (if bt180.1 < bt182.1 then (some false) else (if b = true then (fairleadlaw07_ActLeast.l0 k l true m true ((i + 1 : Nat) : Int)) else (fairleadlaw07_ActLeast.l0 k l true m ((rd l i) == m) ((i + 1 : Nat) : Int)))))) (fun k => ?_) ?_
    · simp only [fairleadlaw07_ActLeast.l0]
      rw [if_pos (by omega), if_pos (by omega), w i (by omega)]
    · refine Ev.bind (of_ev hr) (Ev.bind (of_ev hmr) ?_)
      refine Ev.congr (fun k => if_neg (show ¬ kindV (rd l i) < kindV m by omega)) ?_
      rw [drop_rd l i (by omega)]
      by_cases hb : b = true
      · simp only [if_pos hb]
        have := ih (i + 1) true (by omega)
        simpa [hb] using this
      · simp only [if_neg hb]
        have := ih (i + 1) ((rd l i) == m) (by omega)
        have e : (b || decide (m ∈ rd l i :: l.drop (i + 1))) = (((rd l i) == m) || decide (m ∈ l.drop (i + 1))) := by
          rw [Bool.eq_iff_iff]
          have hb2 : b = false := by simpa using hb
          simp only [hb2, Bool.false_or, Bool.or_eq_true, decide_eq_true_eq, List.mem_cons, beq_iff_eq]
          constructor
          · rintro (h | h)
            · exact .inl h.symm
            · exact .inr h
          · rintro (h | h)
            · exact .inl h.symm
            · exact .inr h
        rw [e]
        exact this
theorem ActLeast : fairleadlaw07_ActLeast.Pure := by
  intro l ⟨_, ho⟩
  by_cases hl : (l.length : Int) > 1000
  · refine ⟨10, ?_⟩
    unfold fairleadlaw07_ActLeast.f
    rw [awake07 10 (by decide)]
    simp only [Option.bind_some]
    rw [if_pos hl]
  · obtain ⟨K1, h1⟩ := most_ev l ho (by omega)
    by_cases h0 : l = []
    · subst h0
      refine ⟨K1 + 10, ?_⟩
      have h1' := h1 (K1 + 10) (by omega)
      simp only at h1'
      unfold fairleadlaw07_ActLeast.f
      rw [awake07 _ (by omega), h1']
      simp only [Option.bind_some, MST]
      rw [if_neg hl, if_pos (by rfl), if_pos trivial, of_is (by decide) (by decide) _ (by omega)]
      decide
    · have hm := mst_mem h0
      obtain ⟨K2, h2⟩ := least_loop l ho (by omega) (MST l) (mst_le l) (ho _ hm) l.length 0 false (by omega)
      refine ⟨K1 + K2 + 10, ?_⟩
      have h1' := h1 (K1 + K2 + 10) (by omega)
      have h2' := h2 (K1 + K2 + 10) (by omega)
      simp only [Int.natCast_zero] at h1' h2'
      unfold fairleadlaw07_ActLeast.f
      rw [awake07 _ (by omega), h1']
      simp only [Option.bind_some]
      have hne : l.length ≠ 0 := fun h => h0 (List.length_eq_zero_iff.1 h)
      rw [if_neg hl, if_neg (by omega), h2']
      simp [hm]

end Go.Proofs.Ytleegkeoggbkhaa.Pure
