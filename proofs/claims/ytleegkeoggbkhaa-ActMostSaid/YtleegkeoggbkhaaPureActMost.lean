/- The law ActMost, as numbers and lists: what the printed functions say of it is true for every input that the row lets in. -/
import Derived.Test.YtleegkeoggbkhaaMx8
import Derived.Test.YtleegkeoggbkhaaAid
import Derived.Test.YtleegkeoggbkhaaL07
import Derived.Test.YtleegkeoggbkhaaL07m
namespace Go.Proofs.Ytleegkeoggbkhaa.Pure
open Go Go.RowKit Go.Proofs.Ytleegkeoggbkhaa.M Go.Proofs.Ytleegkeoggbkhaa.Aid Go.Proofs.YtleegkeoggbkhaaW.PrintWords Go.Proofs.YtleegkeoggbkhaaW.PrintLast Go.Proofs.YtleegkeoggbkhaaW.PrintMore
set_option linter.unusedVariables false
set_option linter.unusedSimpArgs false

-- IMPORT L07
-- IMPORT L07m
/-- None of l forbids more than its i-th. -/
def least (l : List Int) (i : Nat) : Prop := ∀ x ∈ l, kindV (rd l i) ≤ kindV x
theorem rmost_l1 (l : List Int) (ho : ∀ x ∈ l, 0 ≤ x ∧ x ≤ 4294967295) (hl : l.length ≤ 2000) (i : Nat) (hi : i < l.length) (r : Int) (d : Nat) : ∀ (j : Nat) (b : Bool), j + d = l.length →
    ((b = true ∧ ∀ x ∈ l.drop j, kindV (rd l i) ≤ kindV x) → rd l i = r) → (¬ (b = true ∧ ∀ x ∈ l.drop j, kindV (rd l i) ≤ kindV x) → Ev (fun k => fairleadref07_Most.l0 k l ((i + 1 : Nat) : Int)) r) →
    Ev (fun k => fairleadref07_Most.l1 k l i b j) r := by
  have w : ∀ j : Nat, j < l.length → wrap64 ((j : Int) + 1) = ((j + 1 : Nat) : Int) := fun j hj => by unfold wrap64; omega
  induction d with
  | zero =>
    intro j b hj h1 h2
    rw [List.drop_of_length_le (by omega)] at h1 h2
    by_cases hb : b = true
    · refine Ev.step (f := fun _ => some r) (fun k => ?_) (Ev.now _)
      simp only [fairleadref07_Most.l1]
      rw [if_neg (by omega), if_pos hb, if_pos (by omega), if_pos (by omega), h1 ⟨hb, fun x hx => by simp at hx⟩]
    · refine Ev.step (f := fun k => fairleadref07_Most.l0 k l ((i + 1 : Nat) : Int)) (fun k => ?_) (h2 (fun h => hb h.1))
      simp only [fairleadref07_Most.l1]
      rw [if_neg (by omega), if_neg hb, w i hi]
  | succ d ih =>
    intro j b hj h1 h2
    have hr := ho _ (rd_mem l j (by omega))
    have hr2 := ho _ (rd_mem l i hi)
    rw [drop_rd l j (by omega)] at h1 h2
    refine Ev.step (f := fun k => (fairleadref07_Of.f k (rd l j)).bind fun bt167 => ((fairleadref07_Of.f k (rd l i)).bind fun bt170 => (if bt167.1 < bt170.1 then (fairleadref07_Most.l1 k l i false ((j + 1 : Nat) : Int)) else (fairleadref07_Most.l1 k l i b ((j + 1 : Nat) : Int))))) (fun k => ?_) ?_
    · simp only [fairleadref07_Most.l1]
      have c2 : (0 : Int) ≤ (i : Int) := by omega
      have c3 : (i : Int) < (l.length : Int) := by omega
      rw [if_pos (by omega), if_pos (by omega), w j (by omega)]
      simp only [if_pos c2, if_pos c3]
    · refine Ev.bind (rof_ev hr) (Ev.bind (rof_ev hr2) ?_)
      by_cases h : kindV (rd l j) < kindV (rd l i)
      · refine Ev.congr (fun k => if_pos h) ?_
        refine ih (j + 1) false (by omega) (fun h3 => absurd h3.1 (by decide)) (fun _ => h2 (fun h3 => ?_))
        have := h3.2 (rd l j) (by simp)
        omega
      · refine Ev.congr (fun k => if_neg h) ?_
        refine ih (j + 1) b (by omega) (fun h3 => h1 ⟨h3.1, fun x hx => ?_⟩) (fun h3 => h2 (fun h4 => h3 ⟨h4.1, fun x hx => h4.2 x (by simp [hx])⟩))
        rcases List.mem_cons.1 hx with rfl | hx
        · omega
        · exact h3.2 x hx
theorem rmost_l0 (l : List Int) (ho : ∀ x ∈ l, 0 ≤ x ∧ x ≤ 4294967295) (hl : l.length ≤ 2000) (d : Nat) : ∀ (i : Nat), i + d = l.length → (∀ j, j < i → ¬ least l j) →
    Ev (fun k => fairleadref07_Most.l0 k l i) (MST l) := by
  induction d with
  | zero =>
    intro i hi hn
    refine Ev.step (f := fun _ => some 2147418112) (fun k => ?_) ?_
    · simp only [fairleadref07_Most.l0]
      rw [if_neg (by omega)]
    · by_cases he : l = []
      · subst he; exact Ev.now _
      · exfalso
        obtain ⟨j, hj⟩ := List.getElem?_of_mem (mst_mem he)
        have hlt := (List.getElem?_eq_some_iff.1 hj).1
        refine hn j (by omega) (fun x hx => ?_)
        have e : rd l j = MST l := by
          unfold rd
          rw [Int.toNat_natCast, List.getD_eq_getElem?_getD, hj]
          rfl
        rw [e]
        exact mst_le l x hx
  | succ d ih =>
    intro i hi hn
    refine Ev.step (f := fun k => fairleadref07_Most.l1 k l i true ((0 : Nat) : Int)) (fun k => ?_) ?_
    · simp only [fairleadref07_Most.l0]
      rw [if_pos (by omega)]
      rfl
    · refine rmost_l1 l ho hl i (by omega) (MST l) l.length 0 true (by omega) (fun h => ?_) (fun h => ?_)
      · have h2 : ∀ x ∈ l, kindV (rd l i) ≤ kindV x := fun x hx => h.2 x (by simpa using hx)
        have e : l = l.take i ++ rd l i :: l.drop (i + 1) := by rw [← drop_rd l i (by omega), List.take_append_drop]
        have e2 : MST l = MST (l.take i ++ rd l i :: l.drop (i + 1)) := by rw [← e]
        rw [e2]
        symm
        refine mst_first _ _ _ (fun y hy => ?_) (fun y hy => h2 y (List.mem_of_mem_drop hy))
        obtain ⟨j, hj⟩ := List.getElem?_of_mem hy
        have hlt := (List.getElem?_eq_some_iff.1 hj).1
        rw [List.length_take] at hlt
        have hy2 : rd l j = y := by
          unfold rd
          rw [Int.toNat_natCast, List.getD_eq_getElem?_getD]
          rw [List.getElem?_take, if_pos (by omega)] at hj
          rw [hj]
          rfl
        have hx := hn j (by omega)
        unfold least at hx
        rw [hy2] at hx
        refine Classical.byContradiction (fun hc => hx (fun x hx2 => ?_))
        have := h2 x hx2
        omega
      · refine ih (i + 1) (by omega) (fun j hj => ?_)
        rcases Nat.lt_or_ge j i with h3 | h3
        · exact hn j h3
        · obtain rfl : j = i := by omega
          intro h4
          exact h ⟨rfl, fun x hx => h4 x (by simpa using hx)⟩
theorem ActMost : fairleadlaw07_ActMost.Pure := by
  intro l ⟨_, ho⟩
  by_cases hl : (l.length : Int) > 200
  · refine ⟨10, ?_⟩
    unfold fairleadlaw07_ActMost.f
    rw [awake07 10 (by decide)]
    simp only [Option.bind_some]
    rw [if_pos hl]
  · obtain ⟨K1, h1⟩ := most_ev l ho (by omega)
    obtain ⟨K2, h2⟩ := rmost_l0 l ho (by omega) l.length 0 (by omega) (fun j hj => by omega)
    refine ⟨K1 + K2 + 10, ?_⟩
    unfold fairleadlaw07_ActMost.f fairleadref07_Most.f
    have h1' := h1 (K1 + K2 + 10) (by omega)
    have h2' := h2 (K1 + K2 + 10) (by omega)
    simp only [Int.natCast_zero] at h1' h2'
    rw [awake07 _ (by omega), h1', h2']
    simp only [Option.bind_some]
    rw [if_neg hl]
    simp

end Go.Proofs.Ytleegkeoggbkhaa.Pure
