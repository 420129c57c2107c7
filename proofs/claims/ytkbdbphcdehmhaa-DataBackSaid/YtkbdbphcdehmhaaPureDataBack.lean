/- The law DataBack, as numbers and lists: what the printed functions say of it is true for every input that the row lets in. -/
import Derived.Test.YtkbdbphcdehmhaaMx16
import Derived.Test.YtkbdbphcdehmhaaAid
import Derived.Test.YtkbdbphcdehmhaaL04
import Derived.Test.YtkbdbphcdehmhaaL04r
import Derived.Test.YtkbdbphcdehmhaaL04o
namespace Go.Proofs.Ytkbdbphcdehmhaa.Pure
open Go Go.RowKit Go.Proofs.Ytkbdbphcdehmhaa.M Go.Proofs.Ytkbdbphcdehmhaa.Aid Go.Proofs.YtkbdbphcdehmhaaW.PrintWords Go.Proofs.YtkbdbphcdehmhaaW.PrintLast Go.Proofs.YtkbdbphcdehmhaaW.PrintMore
set_option linter.unusedVariables false
set_option linter.unusedSimpArgs false

-- IMPORT L04
-- IMPORT L04r
-- IMPORT L04o
theorem DataBack : fairleadlaw04_DataBack.Pure := by
  intro a0 a1 a2 a3 a4 a5 a6 a7 a8 l h hb
  refine ⟨(100 + 0) + 7 + 8 + 96 + 1, ?_⟩
  generalize hK : 100 + 0 = K
  have hk : 100 ≤ K := by omega
  have hin := flat_in (WS a0 a1 a2 a3 a4 a5 a6 a7 a8)
  have hlen : ((WS a0 a1 a2 a3 a4 a5 a6 a7 a8).flatMap b4).length = 64 := by rw [flat_len, ws_len]
  generalize hB : (WS a0 a1 a2 a3 a4 a5 a6 a7 a8).flatMap b4 = B at hin hlen
  have hB8 : ∀ x ∈ B, 0 ≤ x ∧ x ≤ 255 := fun x hx => by have := hin x hx; omega
  have o1 := of_is B hB8 (K + 1)
  rw [show K + 1 + 7 + 8 + 96 = K + 7 + 8 + 96 + 1 by omega] at o1
  have hD : DOF B = (a0, a1, a2, a3, a4, a5, a6, a7, a8, 0) := by
    have q1 := qd_lo B hB8 1 (by omega)
    have q2 := qd_lo B hB8 2 (by omega)
    have q3 := qd_lo B hB8 3 (by omega)
    have q4 := qd_lo B hB8 4 (by omega)
    have q5 := qd_lo B hB8 5 (by omega)
    have q6 := qd_lo B hB8 6 (by omega)
    have q7 := qd_lo B hB8 7 (by omega)
    have hw : ∀ j, j < 16 → wd B j = rd (WS a0 a1 a2 a3 a4 a5 a6 a7 a8) j := fun j hj => by
      have hr := ws_in h _ (rd_memI (WS a0 a1 a2 a3 a4 a5 a6 a7 a8) j (by rw [ws_len]; exact hj))
      unfold wd
      rw [← hB, flat_cut _ j (by rw [ws_len]; exact hj), num_b4 hr]
    have hq : ∀ j x : Int, 0 ≤ x ∧ x ≤ 18446744073709551615 → lo x + 4294967296 * hi x = x := fun _ x hx => by unfold lo hi; omega
    unfold DOF DOFR
    rw [if_neg (by omega), if_neg (by omega), qd_is B 1 (by omega), qd_is B 2 (by omega), qd_is B 3 (by omega), qd_is B 4 (by omega), qd_is B 5 (by omega), qd_is B 6 (by omega), qd_is B 7 (by omega)]
    simp only [Nat.reduceMul, Nat.reduceAdd]
    rw [hw 0 (by decide), hw 1 (by decide), hw 2 (by decide), hw 3 (by decide), hw 4 (by decide), hw 5 (by decide), hw 6 (by decide), hw 7 (by decide), hw 8 (by decide), hw 9 (by decide), hw 10 (by decide), hw 11 (by decide), hw 12 (by decide), hw 13 (by decide), hw 14 (by decide), hw 15 (by decide)]
    obtain ⟨h0, h1, h2, ⟨h3, h4, h5, h6, h7, h8⟩⟩ := h
    show (a0, a1, lo a2 + 4294967296 * hi a2, lo a3 + 4294967296 * hi a3, lo a4 + 4294967296 * hi a4, lo a5 + 4294967296 * hi a5, lo a6 + 4294967296 * hi a6, lo a7 + 4294967296 * hi a7, lo a8 + 4294967296 * hi a8, (0 : Int)) = _
    rw [hq 0 _ h2, hq 0 _ h3, hq 0 _ h4, hq 0 _ h5, hq 0 _ h6, hq 0 _ h7, hq 0 _ h8]
  unfold fairleadlaw04_DataBack.f
  rw [awake04 _ (by omega), Option.bind_some, bytes_is _ _ _ _ _ _ _ _ _ _ (by omega), Option.bind_some, hB, o1, Option.bind_some, hD]
  simp only [beq_self_eq_true, Bool.not_true, Bool.or_false, Bool.false_eq_true, if_false, bne_self_eq_false]
  simp only [fairleadlaw04_DataBack.j0]
  rw [if_neg (by decide), of_is l hb.2 K, Option.bind_some]
  unfold DOF
  by_cases h1 : l.length < 64
  · rw [if_pos h1, if_neg (by decide), if_pos trivial]
    simp
    omega
  · rw [if_neg h1]
    by_cases h2 : 64 < l.length
    · rw [if_pos h2, if_neg (by decide), if_pos trivial]
      simp
      omega
    · rw [if_neg h2]
      have hl : l.length = 64 := by omega
      unfold DOFR
      rw [if_pos trivial, bytes_is _ _ _ _ _ _ _ _ _ _ (by omega), Option.bind_some, dof_bytes l hb.2 hl, hl]
      simp

end Go.Proofs.Ytkbdbphcdehmhaa.Pure
