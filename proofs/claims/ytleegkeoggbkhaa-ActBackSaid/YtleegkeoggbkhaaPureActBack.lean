/- The law ActBack, as numbers and lists: what the printed functions say of it is true for every input that the row lets in. -/
import Derived.Test.YtleegkeoggbkhaaMx6
import Derived.Test.YtleegkeoggbkhaaAid
import Derived.Test.YtleegkeoggbkhaaL07
namespace Go.Proofs.Ytleegkeoggbkhaa.Pure
open Go Go.RowKit Go.Proofs.Ytleegkeoggbkhaa.M Go.Proofs.Ytleegkeoggbkhaa.Aid Go.Proofs.YtleegkeoggbkhaaW.PrintWords Go.Proofs.YtleegkeoggbkhaaW.PrintLast Go.Proofs.YtleegkeoggbkhaaW.PrintMore
set_option linter.unusedVariables false
set_option linter.unusedSimpArgs false

-- IMPORT L07
theorem of_num {k a : Int} (h : RightA k a) : OfV (numK k + a) = (k, a) := by
  obtain ⟨h0, h1, h2, h3, h4⟩ := h
  have hk : k = 1 ∨ k = 2 ∨ k = 3 ∨ k = 4 ∨ k = 5 ∨ k = 6 ∨ k = 7 ∨ k = 8 := by omega
  have e : ∀ n : Int, (n * 65536 + a) / 65536 = n ∧ (n * 65536 + a) % 65536 = a := fun n => by omega
  have e1 := e 32768; have e2 := e 0; have e3 := e 3; have e4 := e 5; have e5 := e 32704; have e6 := e 32752; have e7 := e 32764; have e8 := e 32767
  simp only [Int.reduceMul] at e1 e2 e3 e4 e5 e6 e7 e8
  rcases hk with rfl | rfl | rfl | rfl | rfl | rfl | rfl | rfl <;> simp only [Brs, Int.reduceEq, or_false, false_or, or_true, true_or] at h4 <;> simp only [numK, Int.reduceEq, if_true, if_false] <;> simp [OfV, kindV, argV, Brs, e1, e2, e3, e4, e5, e6, e7, e8, h4]
theorem right_of {v : Int} (h0 : 0 ≤ v) : RightA (kindV v) (argV v) := by
  have a := kindV_range v
  have b := argV_range v h0
  refine ⟨a.1, a.2, b.1, b.2, ?_⟩
  unfold argV
  split
  · exact .inl rfl
  · split
    · rename_i h; exact .inr h
    · exact .inl rfl
theorem num_range {k a : Int} (h : RightA k a) : 0 ≤ numK k + a ∧ numK k + a ≤ 4294967295 := by
  obtain ⟨h0, h1, h2, h3, h4⟩ := h
  have hk : k = 1 ∨ k = 2 ∨ k = 3 ∨ k = 4 ∨ k = 5 ∨ k = 6 ∨ k = 7 ∨ k = 8 := by omega
  rcases hk with rfl | rfl | rfl | rfl | rfl | rfl | rfl | rfl <;> simp only [numK, Int.reduceEq, if_true, if_false] <;> omega
theorem ActBack : fairleadlaw07_ActBack.Pure := by
  intro k a v _ hv
  refine ⟨10 + 1, ?_⟩
  have ho := of_is hv.1 hv.2 10 (by decide)
  have hr := right_of hv.1
  have hn := num_range hr
  have ho2 := of_is hn.1 hn.2 10 (by decide)
  rw [of_num hr] at ho2
  have tail : ∀ e : Int, (e = 0 ↔ RightA k a) → fairleadlaw07_ActBack.j0 (10 + 1) v true e false k a = some true := by
    intro e he
    simp only [fairleadlaw07_ActBack.j0]
    rw [if_neg (by decide), ho]
    simp only [Option.bind_some, OfV, value_is, right_is, dec_true, if_true, if_pos hr]
    have e1 : ((e == 0) == decide (RightA k a)) = true := by
      rw [beq_iff_eq, Bool.eq_iff_iff, beq_iff_eq, decide_eq_true_eq]
      exact he
    rw [if_pos e1, ho2]
    simp
  unfold fairleadlaw07_ActBack.f
  rw [awake07 _ (by decide), value_is]
  simp only [Option.bind_some]
  by_cases h : RightA k a
  · have hm := num_range h
    rw [if_pos h, if_pos rfl, of_is hm.1 hm.2 _ (by decide), of_num h]
    simp only [Option.bind_some]
    have e : (!(k == k) || (!(a == a))) = false := by simp
    rw [e]
    exact tail 0 ⟨fun _ => h, fun _ => rfl⟩
  · rw [if_neg h, if_neg (by decide)]
    exact tail 1 ⟨fun h2 => absurd h2 (by decide), fun h2 => absurd h2 h⟩

end Go.Proofs.Ytleegkeoggbkhaa.Pure
