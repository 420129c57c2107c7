/- The law StackFork, as numbers and lists: what the printed functions say of it is true for every input that the row lets in. -/
import Derived.Test.YteojfjlklikaoaaP3Mx21
import Derived.Test.YteojfjlklikaoaaP3Aid
import Derived.Test.YteojfjlklikaoaaP3L15
namespace Go.Proofs.Yteojfjlklikaoaa.Pure
open Go Go.RowKit Go.Proofs.Yteojfjlklikaoaa.M Go.Proofs.Yteojfjlklikaoaa.Aid Go.Proofs.YteojfjlklikaoaaW.PrintWords Go.Proofs.YteojfjlklikaoaaW.PrintLast Go.Proofs.YteojfjlklikaoaaW.PrintMore
set_option linter.unusedVariables false
set_option linter.unusedSimpArgs false
-- IMPORT L15
theorem StackFork : fairleadlaw15_StackFork.Pure := by
  intro L M1 M2 d0 d1 d2 d3 d4 d5 d6 d7 d8 hL hM hd
  have ho : ∀ l ∈ L, ∀ x ∈ l, InsOk x := fun l hl => (hL.2 l hl).2
  have ho1 : ∀ x ∈ M1, InsOk x := hM.1.2
  have ho2 : ∀ x ∈ M2, InsOk x := hM.2.2
  obtain ⟨K1, h1⟩ := awake15
  obtain ⟨val, hv⟩ := val_ex (show DOk d0 d1 d2 d3 d4 d5 d6 d7 d8 from hd)
  have hf := fit_built (fun l => (CH l).1) L L (fun _ h => h)
  generalize hBe : BUILT (fun l => (CH l).1) L = B at hf
  have hB : B.length ≤ 32 := hf.len
  have att : ∀ M : List S53, (∀ x ∈ M, InsOk x) → (ATT (CH M).1 B (costOf B) M).2.1.length ≤ 40 ∧ ∀ l ∈ (ATT (CH M).1 B (costOf B) M).2.1, ∀ x ∈ l, InsOk x := fun M hoM => by
    rcases att_cases (CH M).1 B (costOf B) M with ⟨_, h2⟩ | ⟨_, _, _, h3⟩
    · rw [h2]; exact ⟨by simp only; omega, fun l hl => ho l (hf.mem l hl).1⟩
    · rw [h3]
      refine ⟨by simp; omega, fun l hl => ?_⟩
      rcases List.mem_append.1 hl with hl | hl
      · exact ho l (hf.mem l hl).1
      · rw [List.mem_singleton.1 hl]; exact hoM
  obtain ⟨a1, o1⟩ := att M1 ho1
  obtain ⟨a2, o2⟩ := att M2 ho2
  generalize hC1 : (ATT (CH M1).1 B (costOf B) M1).2.1 = C1 at a1 o1
  generalize hC2 : (ATT (CH M2).1 B (costOf B) M2).2.1 = C2 at a2 o2
  obtain ⟨K2, h2⟩ := vals_most (fun l => (hv l).1) B (by omega)
  obtain ⟨K3, h3⟩ := vals_most (fun l => (hv l).1) C1 a1
  obtain ⟨K4, h4⟩ := vals_most (fun l => (hv l).1) C2 a2
  obtain ⟨b, hb, hb2⟩ := few_is L (K1 + K2 + K3 + K4 + 7000) (by omega)
  refine ⟨K1 + K2 + K3 + K4 + 7000, ⟨h1 _ (by omega), b, hb, fun ht _ _ => ⟨hb2 ht, fun l => (CH l).1, val, MST (stVals val B), MST (stVals val C1), MST (stVals val C2), (CH M1).2, (CH M2).2, ?_⟩⟩, rfl⟩
  simp only [hBe, hC1, hC2]
  refine ⟨cks L ho _ (by omega), fun l _ h => ch_len h, check_is M1 ho1 _ (by omega), check_is M2 ho2 _ (by omega), fun l hl => ?_, (h2 _ (by omega)).1, (h3 _ (by omega)).1, (h4 _ (by omega)).1⟩
  have hol : ∀ x ∈ l, InsOk x := by
    rcases hl with hl | hl | hl
    · exact ho l (hf.mem l hl).1
    · exact o1 l hl
    · exact o2 l hl
  obtain ⟨n, hn⟩ := (hv l).2 hol
  exact ⟨n, _, (hn _ (by omega)).1⟩
end Go.Proofs.Yteojfjlklikaoaa.Pure
