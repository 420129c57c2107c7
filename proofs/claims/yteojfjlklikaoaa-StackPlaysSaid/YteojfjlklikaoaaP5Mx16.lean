-- Laid by a program (wip/tools/myprint.py) out of the loaded program's own print: for each Go function a Lean function and the proof of its contract.
import Derived.Test.YteojfjlklikaoaaP5Mx0
import Derived.Test.YteojfjlklikaoaaP5Mx3
import Derived.Test.YteojfjlklikaoaaP5Mx7
namespace Go.Proofs.Yteojfjlklikaoaa.M
open Go.RowKit Go.Proofs.YteojfjlklikaoaaW.PrintWords Go.Proofs.YteojfjlklikaoaaW.PrintLast Go.Proofs.YteojfjlklikaoaaW.PrintMore
attribute [local go_sem] max2_int min2_int max_two min_two max_three min_three max_four min_four   -- for this text's walks alone
set_option linter.unusedVariables false
set_option linter.unusedSimpArgs false
-- HAND rounds=True making=True
/-- The filters that can be attached, one behind the other. -/
def BUILT (ck : List S53 → Int) (L : List (List S53)) : List (List S53) := L.foldl (fun acc l => (ATT (ck l) acc (costOf acc) l).2.1) []
theorem built_snoc (ck : List S53 → Int) (L : List (List S53)) (l : List S53) : BUILT ck (L ++ [l]) = (ATT (ck l) (BUILT ck L) (costOf (BUILT ck L)) l).2.1 := by
  unfold BUILT
  rw [List.foldl_append]
  rfl
theorem att_cases (e0 : Int) (L : List (List S53)) (cost : Int) (l : List S53) : ((ATT e0 L cost l).1 ≠ 0 ∧ (ATT e0 L cost l).2 = (L, cost)) ∨ (e0 = 0 ∧ L.length < 32 ∧ cost + l.length + 4 ≤ 32768 ∧ ATT e0 L cost l = (0, L ++ [l], cost + l.length + 4)) := by
  unfold ATT
  by_cases h : e0 = 0
  · by_cases h2 : 32 ≤ L.length ∨ 32768 < cost + l.length + 4
    · left; rw [if_neg (by simpa using h), if_pos h2]; exact ⟨by simp, rfl⟩
    · right; rw [if_neg (by simpa using h), if_neg h2]; exact ⟨h, by omega, by omega, rfl⟩
  · left; rw [if_pos h]; exact ⟨h, rfl⟩
/-- What is built: few, of few costs, of those that may be. -/
structure Fit (ck : List S53 → Int) (L B : List (List S53)) : Prop where
  len : B.length ≤ 32
  cost : costOf B ≤ 32768
  mem : ∀ l ∈ B, l ∈ L ∧ ck l = 0
theorem fit_att {ck : List S53 → Int} {L B : List (List S53)} (h : Fit ck L B) (l : List S53) (hl : l ∈ L) : Fit ck L (ATT (ck l) B (costOf B) l).2.1 ∧ (ATT (ck l) B (costOf B) l).2.2 = costOf (ATT (ck l) B (costOf B) l).2.1 := by
  rcases att_cases (ck l) B (costOf B) l with ⟨_, h2⟩ | ⟨h0, h1, h2, h3⟩
  · rw [h2]; exact ⟨h, rfl⟩
  · rw [h3]
    refine ⟨⟨by simp; omega, by rw [costOf_app]; exact h2, fun x hx => ?_⟩, by simp [costOf_app]⟩
    rcases List.mem_append.1 hx with hx | hx
    · exact h.mem x hx
    · rw [List.mem_singleton.1 hx]; exact ⟨hl, h0⟩
theorem fit_built (ck : List S53 → Int) (L0 L : List (List S53)) (h : ∀ l ∈ L, l ∈ L0) : Fit ck L0 (BUILT ck L) := by
  have key : ∀ (L acc : List (List S53)), Fit ck L0 acc → (∀ l ∈ L, l ∈ L0) → Fit ck L0 (L.foldl (fun acc l => (ATT (ck l) acc (costOf acc) l).2.1) acc) := by
    intro L
    induction L with
    | nil => exact fun _ h _ => h
    | cons a r ih => exact fun acc hf h => ih _ (fit_att hf a (h a List.mem_cons_self)).1 (fun l hl => h l (List.mem_cons_of_mem _ hl))
  exact key L [] ⟨by simp, by simp [costOf], fun l hl => by simp at hl⟩ h
theorem take_getD (L : List (List S53)) (j : Nat) (h : j < L.length) : L.take (j + 1) = L.take j ++ [L.getD j []] := by
  rw [List.take_add_one, List.getElem?_eq_getElem h, List.getD_eq_getElem?_getD, List.getElem?_eq_getElem h]; rfl
end Go.Proofs.Yteojfjlklikaoaa.M
