/- The law StackPlays, as numbers and lists: what the printed functions say of it is true for every input that the row lets in. -/
import Derived.Test.YteojfjlklikaoaaP5Mx15
import Derived.Test.YteojfjlklikaoaaP5Aid
import Derived.Test.YteojfjlklikaoaaP5L15
namespace Go.Proofs.Yteojfjlklikaoaa.Pure
open Go Go.RowKit Go.Proofs.Yteojfjlklikaoaa.M Go.Proofs.Yteojfjlklikaoaa.Aid Go.Proofs.YteojfjlklikaoaaW.PrintWords Go.Proofs.YteojfjlklikaoaaW.PrintLast Go.Proofs.YteojfjlklikaoaaW.PrintMore
set_option linter.unusedVariables false
set_option linter.unusedSimpArgs false
-- IMPORT L15
theorem StackPlays : fairleadlaw15_StackPlays.Pure := by
  intro L d0 d1 d2 d3 d4 d5 d6 d7 d8 hL hd
  have ho : ∀ l ∈ L, ∀ x ∈ l, InsOk x := fun l hl => (hL.2 l hl).2
  obtain ⟨K1, h1⟩ := awake15
  obtain ⟨val, hv⟩ := val_ex (show DOk d0 d1 d2 d3 d4 d5 d6 d7 d8 from hd)
  have hB : (BUILT (fun l => (CH l).1) L).length ≤ 40 := by have := (fit_built (fun l => (CH l).1) L L (fun _ h => h)).len; omega
  obtain ⟨K2, h2⟩ := vals_most (fun l => (hv l).1) (BUILT (fun l => (CH l).1) L) hB
  obtain ⟨b, hb, hb2⟩ := few_is L (K1 + K2 + 7000) (by omega)
  refine ⟨K1 + K2 + 7000, ⟨h1 _ (by omega), b, hb, fun ht => ⟨hb2 ht, fun l => (CH l).1, val, MST (stVals val (BUILT (fun l => (CH l).1) L)), cks L ho _ (by omega), fun l hl => ⟨_, rcheck_is l (ho l hl) _ (by omega)⟩, fun l _ h => ch_len h, fun l hl => ?_, fun l hl => ?_, (h2 _ (by omega)).1, (h2 _ (by omega)).2⟩⟩, rfl⟩
  · obtain ⟨n, hn⟩ := (hv l).2 (ho l (built_in _ L l hl).1)
    exact ⟨n, _, (hn _ (by omega)).1⟩
  · obtain ⟨n, hn⟩ := (hv l).2 (ho l (built_in _ L l hl).1)
    exact ⟨n, _, (hn _ (by omega)).2⟩
end Go.Proofs.Yteojfjlklikaoaa.Pure
