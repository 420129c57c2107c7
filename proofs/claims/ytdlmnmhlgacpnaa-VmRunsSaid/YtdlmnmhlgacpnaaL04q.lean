/- Layer 4 (data), plain: a call's word, by the document. -/
import Derived.Test.YtdlmnmhlgacpnaaMx0
import Derived.Test.YtdlmnmhlgacpnaaMx3
import Derived.Test.YtdlmnmhlgacpnaaMx7
import Derived.Test.YtdlmnmhlgacpnaaMx8
import Derived.Test.YtdlmnmhlgacpnaaAid
import Derived.Test.YtdlmnmhlgacpnaaL04a
import Derived.Test.YtdlmnmhlgacpnaaL04r
import Derived.Test.YtdlmnmhlgacpnaaL04m
namespace Go.Proofs.Ytdlmnmhlgacpnaa.Pure
open Go Go.RowKit Go.Proofs.Ytdlmnmhlgacpnaa.M Go.Proofs.Ytdlmnmhlgacpnaa.Aid Go.Proofs.YtdlmnmhlgacpnaaW.PrintWords Go.Proofs.YtdlmnmhlgacpnaaW.PrintLast Go.Proofs.YtdlmnmhlgacpnaaW.PrintMore
set_option linter.unusedVariables false
set_option linter.unusedSimpArgs false

-- NEEDS data_laid.f data_Halves.f fairleadref04_low.f fairleadref04_Bytes.f fairleadref04_number.f fairleadref04_Load.f
-- IMPORT L04a
-- IMPORT L04r
-- IMPORT L04m

theorem rload_is {a0 a1 a2 a3 a4 a5 a6 a7 a8 : Int} (h : DOk a0 a1 a2 a3 a4 a5 a6 a7 a8) (p : Int) (hp : 0 ≤ p ∧ p ≤ 4294967295) (k : Nat) (hk : 30 ≤ k) :
    fairleadref04_Load.f k a0 a1 a2 a3 a4 a5 a6 a7 a8 p = some (if p % 4 = 0 ∧ p < 64 then (rd (WS a0 a1 a2 a3 a4 a5 a6 a7 a8) (p / 4), 0) else (0, 12)) := by
  obtain ⟨k, rfl⟩ : ∃ m, k = m + 1 := ⟨k - 1, by omega⟩
  unfold fairleadref04_Load.f
  rw [Int.tmod_eq_emod_of_nonneg hp.1]
  by_cases h1 : p % 4 = 0
  · rw [if_pos h1]
    by_cases h2 : p ≥ 64
    · simp only [fairleadref04_Load.j0]
      rw [if_pos (decide_eq_true h2), if_neg (by omega)]
    · obtain ⟨j, hj⟩ : ∃ j : Nat, p = 4 * (j : Int) := ⟨(p / 4).toNat, by omega⟩
      have hl := ws_len a0 a1 a2 a3 a4 a5 a6 a7 a8
      have hw := ws_in h _ (rd_memI (WS a0 a1 a2 a3 a4 a5 a6 a7 a8) j (by omega))
      simp only [fairleadref04_Load.j0]
      rw [decide_eq_false h2, if_neg (by decide), rbytes_is h k (by omega), if_pos ⟨h1, by omega⟩]
      simp only [Option.bind_some]
      have e : (p + 4) % 4294967296 = p + 4 := by omega
      have hc : (((WS a0 a1 a2 a3 a4 a5 a6 a7 a8).flatMap b4).take (p + 4).toNat).drop p.toNat = b4 (rd (WS a0 a1 a2 a3 a4 a5 a6 a7 a8) j) := by
        rw [List.drop_take, show p.toNat = 4 * j from by omega, show (p + 4).toNat - 4 * j = 4 from by omega, flat_cut _ j (by omega)]
      rw [e, if_pos hp.1, if_pos (by omega), if_pos (by rw [flat_len]; omega), hc, num_is _ (fun x hx => by have := b4_in _ x hx; omega) (by show 4 ≤ 8; decide) k (by omega), num_b4 hw]
      simp only [Option.bind_some]
      rw [show p / 4 = (j : Int) from by omega, show rd (WS a0 a1 a2 a3 a4 a5 a6 a7 a8) j % 4294967296 = rd (WS a0 a1 a2 a3 a4 a5 a6 a7 a8) j from by omega]
  · rw [if_neg h1, if_neg (by omega)]
    simp only [fairleadref04_Load.j0]
    rfl
end Go.Proofs.Ytdlmnmhlgacpnaa.Pure
