/- The law VmTraces, as numbers and lists: what the printed functions say of it is true for every input that the row lets in. -/
import Derived.Test.YtdlmnmhlgacpnaaMx18
import Derived.Test.YtdlmnmhlgacpnaaAid
import Derived.Test.YtdlmnmhlgacpnaaL00
import Derived.Test.YtdlmnmhlgacpnaaL05b
import Derived.Test.YtdlmnmhlgacpnaaL06
import Derived.Test.YtdlmnmhlgacpnaaL06a
import Derived.Test.YtdlmnmhlgacpnaaL06t
namespace Go.Proofs.Ytdlmnmhlgacpnaa.Pure
open Go Go.RowKit Go.Proofs.Ytdlmnmhlgacpnaa.M Go.Proofs.Ytdlmnmhlgacpnaa.Aid Go.Proofs.YtdlmnmhlgacpnaaW.PrintWords Go.Proofs.YtdlmnmhlgacpnaaW.PrintLast Go.Proofs.YtdlmnmhlgacpnaaW.PrintMore
set_option linter.unusedVariables false
set_option linter.unusedSimpArgs false

-- IMPORT L00
-- IMPORT L05b
-- IMPORT L06
-- IMPORT L06a
-- IMPORT L06t
theorem same_loop (a : List Int) (hl : a.length ≤ 5000) (d : Nat) : ∀ (k i : Nat), i + d = a.length → d < k → fairleadref05_SameInts.l0 k a a i = some true := by
  induction d with
  | zero =>
    intro k i hi hk
    obtain ⟨k, rfl⟩ : ∃ m, k = m + 1 := ⟨k - 1, by omega⟩
    simp only [fairleadref05_SameInts.l0]
    rw [if_neg (by omega)]
  | succ d ih =>
    intro k i hi hk
    obtain ⟨k, rfl⟩ : ∃ m, k = m + 1 := ⟨k - 1, by omega⟩
    have w : wrap64 ((i : Int) + 1) = ((i + 1 : Nat) : Int) := by unfold wrap64; omega
    simp only [fairleadref05_SameInts.l0]
    rw [if_pos (by omega), if_pos (by omega), if_pos (by omega), if_pos trivial, w]
    exact ih k (i + 1) (by omega) (by omega)
theorem VmTraces : fairleadlaw06_VmTraces.Pure := by
  intro l d0 d1 d2 d3 d4 d5 d6 d7 d8 hl hd
  refine ⟨7000 + 0, ?_⟩
  generalize hK : 7000 + 0 = K
  have hk : 7000 ≤ K := by omega
  have ho : ∀ x ∈ l, InsOk x := hl.2
  unfold fairleadlaw06_VmTraces.f
  rw [awake06 K (by omega), trace_ref l ho hd K (by omega)]
  simp only [Option.bind_some]
  rcases play_ok l ho hd with ⟨h1, h2, h3, P, ans, hr, hp⟩ | ⟨h1, hp⟩
  · have hP := runs_len hr
    unfold vm_Trace.f
    rw [hp K (by omega)]
    simp only [Option.bind_some]
    have e : fairleadref05_SameInts.f K P P = some true := by
      unfold fairleadref05_SameInts.f
      rw [if_pos rfl]
      exact same_loop P (by omega) P.length K 0 (by omega) (by omega)
    rw [e]
    simp
  · unfold vm_Trace.f
    rw [hp K (by omega)]
    simp only [Option.bind_some]
    have e : fairleadref05_SameInts.f K [] [] = some true := by
      unfold fairleadref05_SameInts.f
      rw [if_pos rfl]
      exact same_loop [] (by simp) 0 K 0 rfl (by omega)
    rw [e]
    simp

end Go.Proofs.Ytdlmnmhlgacpnaa.Pure
