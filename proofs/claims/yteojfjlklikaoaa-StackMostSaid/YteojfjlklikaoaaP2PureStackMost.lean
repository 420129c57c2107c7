/- The law StackMost, as numbers and lists: what the printed functions say of it is true for every input that the row lets in. -/
import Derived.Test.YteojfjlklikaoaaP2Mx17
import Derived.Test.YteojfjlklikaoaaP2Aid
import Derived.Test.YteojfjlklikaoaaP2L15
namespace Go.Proofs.Yteojfjlklikaoaa.Pure
open Go Go.RowKit Go.Proofs.Yteojfjlklikaoaa.M Go.Proofs.Yteojfjlklikaoaa.Aid Go.Proofs.YteojfjlklikaoaaW.PrintWords Go.Proofs.YteojfjlklikaoaaW.PrintLast Go.Proofs.YteojfjlklikaoaaW.PrintMore
set_option linter.unusedVariables false
set_option linter.unusedSimpArgs false
-- IMPORT L15
theorem StackMost : fairleadlaw15_StackMost.Pure := by
  intro L d0 d1 d2 d3 d4 d5 d6 d7 d8 hL hd
  have ho : ∀ l ∈ L, ∀ x ∈ l, InsOk x := fun l hl => (hL.2 l hl).2
  obtain ⟨K1, h1⟩ := awake15
  obtain ⟨val, hv⟩ := val_ex (show DOk d0 d1 d2 d3 d4 d5 d6 d7 d8 from hd)
  have hB : (BUILT (fun l => (CH l).1) L).length ≤ 40 := by have := (fit_built (fun l => (CH l).1) L L (fun _ h => h)).len; omega
  obtain ⟨K2, h2⟩ := vals_most (fun l => (hv l).1) (BUILT (fun l => (CH l).1) L) hB
  obtain ⟨b, hb, hb2⟩ := few_is L (K1 + K2 + 7000) (by omega)
  have hm := mst_u32 (vals_ok (fun l => (hv l).1) (BUILT (fun l => (CH l).1) L))
  refine ⟨K1 + K2 + 7000, ⟨h1 _ (by omega), b, hb, fun ht => ⟨hb2 ht, fun l => (CH l).1, val, MST (stVals val (BUILT (fun l => (CH l).1) L)), kindV, argV, cks L ho _ (by omega), fun l _ h => ch_len h, fun l hl => ?_, (h2 _ (by omega)).1, of_is hm.1 hm.2 _ (by omega), fun l hl => of_is (hv l).1.1 (hv l).1.2 _ (by omega), fun he => ?_, fun hne => ?_⟩⟩, rfl⟩
  · obtain ⟨n, hn⟩ := (hv l).2 (ho l (built_in _ L l hl).1)
    have h0 := (built_in _ L l hl).2
    have hr := (hn (K1 + K2 + 7000) (by omega)).1
    exact ⟨n, by rw [hr, show (CH l).1 = 0 from h0]⟩
  · rw [he]
    have e : stVals val [] = [] := rfl
    rw [e]
    exact ⟨by decide, by decide⟩
  · generalize hBe : BUILT (fun l => (CH l).1) L = B at *
    have hne2 : stVals val B ≠ [] := fun h => hne (by
      have := congrArg List.length h
      rw [stVals_len] at this
      exact List.eq_nil_of_length_eq_zero this)
    obtain ⟨a, c, e1, e2, e3⟩ := find_spec (MST (stVals val B)) (stVals val B) ((B.length : Int) - 1) (mst_mem hne2)
    have hlen : a.length + 1 + c.length = B.length := by
      have := congrArg List.length e1
      rw [stVals_len] at this
      simp only [List.length_append, List.length_cons] at this
      omega
    have hah := mst_ahead (stVals val B) a c e1 e2
    rw [e3]
    refine ⟨by omega, by omega, fun i hi => mst_le _ _ ?_, fun i hi hN => ?_, fun i hi hN => ?_⟩
    · exact List.mem_of_getElem? (vals_get val B i hi)
    · have hg := vals_get val B i hi
      rw [show B.length - 1 - i = a.length by omega, e1, List.getElem?_append_right (Nat.le_refl _), Nat.sub_self] at hg
      have hg2 : some (MST (stVals val B)) = some (val (B.getD i [])) := by rw [← hg]; rfl
      exact (Option.some.inj hg2).symm
    · have hg := vals_get val B i hi
      have hg2 : a[B.length - 1 - i]? = some (val (B.getD i [])) := by
        have := List.getElem?_append_left (l₂ := MST (stVals val B) :: c) (show B.length - 1 - i < a.length by omega)
        rw [← this, ← e1]; exact hg
      exact hah _ (List.mem_of_getElem? hg2)
end Go.Proofs.Yteojfjlklikaoaa.Pure
