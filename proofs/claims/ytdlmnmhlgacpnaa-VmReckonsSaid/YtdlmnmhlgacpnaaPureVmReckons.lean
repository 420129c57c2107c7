/- The law VmReckons, as numbers and lists: what the printed functions say of it is true for every input that the row lets in. -/
import Derived.Test.YtdlmnmhlgacpnaaMx13
import Derived.Test.YtdlmnmhlgacpnaaAid
import Derived.Test.YtdlmnmhlgacpnaaL06
import Derived.Test.YtdlmnmhlgacpnaaL06a
namespace Go.Proofs.Ytdlmnmhlgacpnaa.Pure
open Go Go.RowKit Go.Proofs.Ytdlmnmhlgacpnaa.M Go.Proofs.Ytdlmnmhlgacpnaa.Aid Go.Proofs.YtdlmnmhlgacpnaaW.PrintWords Go.Proofs.YtdlmnmhlgacpnaaW.PrintLast Go.Proofs.YtdlmnmhlgacpnaaW.PrintMore
set_option linter.unusedVariables false
set_option linter.unusedSimpArgs false

-- IMPORT L06
-- IMPORT L06a
theorem reck_both (k : Nat) (hk : 5000 ≤ k) (c c8 V a n : Int) (ha : 0 ≤ a ∧ a ≤ 4294967295) (hn : 0 ≤ n ∧ n ≤ 4294967295)
    (h : (c = 4 ∧ c8 = 12 ∧ V = (a + n) % 4294967296) ∨ (c = 20 ∧ c8 = 28 ∧ V = (a - n) % 4294967296) ∨ (c = 36 ∧ c8 = 44 ∧ V = (a * n) % 4294967296) ∨ (c = 68 ∧ c8 = 76 ∧ V = Go.bits .or .u32 a n) ∨ (c = 84 ∧ c8 = 92 ∧ V = Go.bits .and .u32 a n) ∨ (c = 164 ∧ c8 = 172 ∧ V = Go.bits .xor .u32 a n)) :
    vm_Run.f (k + 5) ([⟨0, 0, 0, a⟩, ⟨c, 0, 0, n⟩, ⟨22, 0, 0, 0⟩] : List S37) 0 0 0 0 0 0 0 0 0 = some (V, 3, 0) ∧ vm_Run.f (k + 5) ([⟨0, 0, 0, a⟩, ⟨1, 0, 0, n⟩, ⟨c8, 0, 0, 0⟩, ⟨22, 0, 0, 0⟩] : List S37) 0 0 0 0 0 0 0 0 0 = some (V, 4, 0) := by
  rcases h with ⟨rfl, rfl, rfl⟩ | ⟨rfl, rfl, rfl⟩ | ⟨rfl, rfl, rfl⟩ | ⟨rfl, rfl, rfl⟩ | ⟨rfl, rfl, rfl⟩ | ⟨rfl, rfl, rfl⟩
  all_goals exact ⟨run3 k hk _ _ a n ha hn (by decide) rfl (by simp [CH, chkFrom, wrongOf, wrongI, w0, w1, w3, w4, w5, Knwn, Sing, Reck, Jmps, Endd]) (fun _ => rfl) rfl, run4 k hk _ _ a n ha hn (by decide) rfl (by simp [CH, chkFrom, wrongOf, wrongI, w0, w1, w3, w4, w5, Knwn, Sing, Reck, Jmps, Endd]) (fun _ => rfl) rfl⟩
theorem VmReckons : fairleadlaw06_VmReckons.Pure := by
  intro a n w ha hn hw
  refine ⟨(6000 + 0) + 5, ?_⟩
  generalize hK : 6000 + 0 = K
  have hk : 6000 ≤ K := by omega
  unfold fairleadlaw06_VmReckons.f
  rw [awake06 _ (by omega), Option.bind_some, Option.bind_some, Option.bind_some]
  by_cases h0 : w < 0
  · rw [if_pos h0]
  · rw [if_neg h0, Int.tmod_eq_emod_of_nonneg (by omega)]
    have hm : w % 6 = 0 ∨ w % 6 = 1 ∨ w % 6 = 2 ∨ w % 6 = 3 ∨ w % 6 = 4 ∨ w % 6 = 5 := by omega
    generalize w % 6 = j at hm
    rcases hm with rfl | rfl | rfl | rfl | rfl | rfl
    all_goals rw [if_pos (by decide), if_pos (by decide)]
    · obtain ⟨r1, r2⟩ := reck_both K (by omega) 4 12 _ a n ha hn (.inl ⟨rfl, rfl, rfl⟩)
      rw [show (⟨rd ([4, 20, 36, 68, 84, 164] : List Int) 0, 0, 0, n⟩ : S37) = ⟨4, 0, 0, n⟩ from rfl, r1, Option.bind_some, show (⟨Go.bits .or .u16 (rd ([4, 20, 36, 68, 84, 164] : List Int) 0) 8, 0, 0, 0⟩ : S37) = ⟨12, 0, 0, 0⟩ from rfl, r2]
      simp [rd]
    · obtain ⟨r1, r2⟩ := reck_both K (by omega) 20 28 _ a n ha hn (.inr (.inl ⟨rfl, rfl, rfl⟩))
      rw [show (⟨rd ([4, 20, 36, 68, 84, 164] : List Int) 1, 0, 0, n⟩ : S37) = ⟨20, 0, 0, n⟩ from rfl, r1, Option.bind_some, show (⟨Go.bits .or .u16 (rd ([4, 20, 36, 68, 84, 164] : List Int) 1) 8, 0, 0, 0⟩ : S37) = ⟨28, 0, 0, 0⟩ from rfl, r2]
      simp [rd]
    · obtain ⟨r1, r2⟩ := reck_both K (by omega) 36 44 _ a n ha hn (.inr (.inr (.inl ⟨rfl, rfl, rfl⟩)))
      rw [show (⟨rd ([4, 20, 36, 68, 84, 164] : List Int) 2, 0, 0, n⟩ : S37) = ⟨36, 0, 0, n⟩ from rfl, r1, Option.bind_some, show (⟨Go.bits .or .u16 (rd ([4, 20, 36, 68, 84, 164] : List Int) 2) 8, 0, 0, 0⟩ : S37) = ⟨44, 0, 0, 0⟩ from rfl, r2]
      simp [rd]
    · obtain ⟨r1, r2⟩ := reck_both K (by omega) 68 76 _ a n ha hn (.inr (.inr (.inr (.inl ⟨rfl, rfl, rfl⟩))))
      rw [show (⟨rd ([4, 20, 36, 68, 84, 164] : List Int) 3, 0, 0, n⟩ : S37) = ⟨68, 0, 0, n⟩ from rfl, r1, Option.bind_some, show (⟨Go.bits .or .u16 (rd ([4, 20, 36, 68, 84, 164] : List Int) 3) 8, 0, 0, 0⟩ : S37) = ⟨76, 0, 0, 0⟩ from rfl, r2]
      simp [rd]
    · obtain ⟨r1, r2⟩ := reck_both K (by omega) 84 92 _ a n ha hn (.inr (.inr (.inr (.inr (.inl ⟨rfl, rfl, rfl⟩)))))
      rw [show (⟨rd ([4, 20, 36, 68, 84, 164] : List Int) 4, 0, 0, n⟩ : S37) = ⟨84, 0, 0, n⟩ from rfl, r1, Option.bind_some, show (⟨Go.bits .or .u16 (rd ([4, 20, 36, 68, 84, 164] : List Int) 4) 8, 0, 0, 0⟩ : S37) = ⟨92, 0, 0, 0⟩ from rfl, r2]
      simp [rd]
    · obtain ⟨r1, r2⟩ := reck_both K (by omega) 164 172 _ a n ha hn (.inr (.inr (.inr (.inr (.inr ⟨rfl, rfl, rfl⟩)))))
      rw [show (⟨rd ([4, 20, 36, 68, 84, 164] : List Int) 5, 0, 0, n⟩ : S37) = ⟨164, 0, 0, n⟩ from rfl, r1, Option.bind_some, show (⟨Go.bits .or .u16 (rd ([4, 20, 36, 68, 84, 164] : List Int) 5) 8, 0, 0, 0⟩ : S37) = ⟨172, 0, 0, 0⟩ from rfl, r2]
      simp [rd]

end Go.Proofs.Ytdlmnmhlgacpnaa.Pure
