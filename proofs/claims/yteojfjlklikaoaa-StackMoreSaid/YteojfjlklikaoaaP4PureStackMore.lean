/- The law StackMore, as numbers and lists: what the printed functions say of it is true for every input that the row lets in. -/
import Derived.Test.YteojfjlklikaoaaP4Mx18
import Derived.Test.YteojfjlklikaoaaP4Aid
import Derived.Test.YteojfjlklikaoaaP4L15
namespace Go.Proofs.Yteojfjlklikaoaa.Pure
open Go Go.RowKit Go.Proofs.Yteojfjlklikaoaa.M Go.Proofs.Yteojfjlklikaoaa.Aid Go.Proofs.YteojfjlklikaoaaW.PrintWords Go.Proofs.YteojfjlklikaoaaW.PrintLast Go.Proofs.YteojfjlklikaoaaW.PrintMore
set_option linter.unusedVariables false
set_option linter.unusedSimpArgs false
-- IMPORT L15
theorem StackMore : fairleadlaw15_StackMore.Pure := by
  intro L M d0 d1 d2 d3 d4 d5 d6 d7 d8 hL hM hd
  have ho : ∀ l ∈ L, ∀ x ∈ l, InsOk x := fun l hl => (hL.2 l hl).2
  have hoM : ∀ x ∈ M, InsOk x := hM.2
  obtain ⟨K1, h1⟩ := awake15
  obtain ⟨val, hv⟩ := val_ex (show DOk d0 d1 d2 d3 d4 d5 d6 d7 d8 from hd)
  have hf := fit_built (fun l => (CH l).1) L L (fun _ h => h)
  generalize hBe : BUILT (fun l => (CH l).1) L = B at hf
  have hB : B.length ≤ 32 := hf.len
  have hac := att_cases (CH M).1 B (costOf B) M
  generalize hCe : (ATT (CH M).1 B (costOf B) M).2.1 = C
  have hC : C = B ∨ C = B ++ [M] := by
    rcases hac with ⟨_, h2⟩ | ⟨_, _, _, h3⟩
    · left; rw [← hCe, h2]
    · right; rw [← hCe, h3]
  have hCl : C.length ≤ 40 := by rcases hC with h | h <;> rw [h] <;> (try rw [List.length_append]) <;> (try simp only [List.length_cons, List.length_nil]) <;> omega
  have hCo : ∀ l ∈ C, ∀ x ∈ l, InsOk x := fun l hl => by
    rcases hC with h | h
    · rw [h] at hl; exact ho l (hf.mem l hl).1
    · rw [h] at hl
      rcases List.mem_append.1 hl with hl | hl
      · exact ho l (hf.mem l hl).1
      · rw [List.mem_singleton.1 hl]; exact hoM
  obtain ⟨K2, h2⟩ := vals_most (fun l => (hv l).1) B (by omega)
  obtain ⟨K3, h3⟩ := vals_most (fun l => (hv l).1) C hCl
  obtain ⟨b, hb, hb2⟩ := few_is L (K1 + K2 + K3 + 7000) (by omega)
  have hm := mst_u32 (vals_ok (fun l => (hv l).1) B)
  have hm2 := mst_u32 (vals_ok (fun l => (hv l).1) C)
  have hlast : kindV (MST (stVals val C)) ≤ kindV (MST (stVals val B)) ∧ ((stFind (MST (stVals val C)) (stVals val C) ((C.length : Int) - 1) = stFind (MST (stVals val B)) (stVals val B) ((B.length : Int) - 1) ∧ MST (stVals val C) = MST (stVals val B)) ∨ stFind (MST (stVals val C)) (stVals val C) ((C.length : Int) - 1) = (C.length : Int) - 1) := by
    rcases hC with h | h
    · rw [h]; exact ⟨Int.le_refl _, .inl ⟨rfl, rfl⟩⟩
    · have e : stVals val C = val M :: stVals val B := by rw [h]; simp [stVals]
      have el : (C.length : Int) = B.length + 1 := by rw [h]; simp
      rw [e]
      by_cases hn : stVals val B = []
      · rw [hn]
        have e1 : MST [val M] = val M := rfl
        refine ⟨?_, .inr (by rw [e1]; simp [stFind])⟩
        have := (kindV_range (MST [val M])).2
        have e2 : kindV (MST []) = 8 := by decide
        omega
      · obtain ⟨v, r, hvr⟩ := List.exists_cons_of_ne_nil hn
        have e1 : MST (val M :: stVals val B) = stp (val M) (MST (stVals val B)) := by rw [hvr]; exact mst_cons _ _ _
        by_cases hk : kindV (MST (stVals val B)) < kindV (val M)
        · have e2 : stp (val M) (MST (stVals val B)) = MST (stVals val B) := if_pos hk
          rw [e1, e2]
          refine ⟨Int.le_refl _, .inl ⟨?_, rfl⟩⟩
          have hne : ¬ val M = MST (stVals val B) := fun h => by rw [h] at hk; omega
          simp only [stFind]
          rw [if_neg hne, el, show (B.length : Int) + 1 - 1 - 1 = (B.length : Int) - 1 by omega]
        · have e2 : stp (val M) (MST (stVals val B)) = val M := if_neg hk
          rw [e1, e2]
          exact ⟨by omega, .inr (by simp [stFind])⟩
  refine ⟨K1 + K2 + K3 + 7000, ⟨h1 _ (by omega), b, hb, fun ht hMl => ⟨hb2 ht, fun l => (CH l).1, val, MST (stVals val B), MST (stVals val C), kindV (MST (stVals val B)), kindV (MST (stVals val C)), argV (MST (stVals val B)), argV (MST (stVals val C)), (CH M).2, ?_⟩⟩, rfl⟩
  simp only [hBe, hCe]
  refine ⟨cks L ho _ (by omega), fun l _ h => ch_len h, check_is M hoM _ (by omega), fun h => (ch_len h).2, fun l hl => ?_, fun l hl => ?_, (h2 _ (by omega)).1, (h3 _ (by omega)).1, rof_is hm.1 hm.2 _ (by omega), rof_is hm2.1 hm2.2 _ (by omega), hlast.1, hlast.2⟩
  · obtain ⟨n, hn⟩ := (hv l).2 (hCo l hl)
    exact ⟨n, _, (hn _ (by omega)).1⟩
  · obtain ⟨n, hn⟩ := (hv l).2 (ho l (hf.mem l hl).1)
    exact ⟨n, _, (hn _ (by omega)).1⟩
end Go.Proofs.Yteojfjlklikaoaa.Pure
