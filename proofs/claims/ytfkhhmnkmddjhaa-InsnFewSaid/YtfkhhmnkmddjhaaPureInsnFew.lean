/- The law InsnFew, as numbers and lists: what the printed functions say of it is true for every input that the row lets in. -/
import Derived.Test.YtfkhhmnkmddjhaaMx7
import Derived.Test.YtfkhhmnkmddjhaaAid
import Derived.Test.YtfkhhmnkmddjhaaL03
import Derived.Test.YtfkhhmnkmddjhaaL03k
namespace Go.Proofs.Ytfkhhmnkmddjhaa.Pure
open Go Go.RowKit Go.Proofs.Ytfkhhmnkmddjhaa.M Go.Proofs.Ytfkhhmnkmddjhaa.Aid Go.Proofs.YtfkhhmnkmddjhaaW.PrintWords Go.Proofs.YtfkhhmnkmddjhaaW.PrintLast Go.Proofs.YtfkhhmnkmddjhaaW.PrintMore
set_option linter.unusedVariables false
set_option linter.unusedSimpArgs false

-- IMPORT L03
-- IMPORT L03k
/-- How many of the codes from i on are known. -/
def knownFrom (i : Nat) : Nat := ((List.range 256).drop i).countP fun (c : Nat) => decide (Knwn (c : Int))
theorem few_loop (a : Int) (up : Bool) (d : Nat) : ∀ (k i n : Nat), i + d = 256 → n + d ≤ 300 → d + 11 < k →
    fairleadlaw03_InsnFew.l0 k a up n i = fairleadlaw03_InsnFew.l0 (k - d) a up ((n + knownFrom i : Nat) : Int) 256 := by
  induction d with
  | zero =>
    intro k i n hi hn hk
    obtain rfl : i = 256 := by omega
    have e : knownFrom 256 = 0 := by
      unfold knownFrom
      rw [List.drop_of_length_le (by simp)]
      rfl
    rw [e]
    rfl
  | succ d ih =>
    intro k i n hi hn hk
    obtain ⟨k, rfl⟩ : ∃ m, k = m + 1 := ⟨k - 1, by omega⟩
    have w : wrap64 ((i : Int) + 1) = ((i + 1 : Nat) : Int) := by unfold wrap64; omega
    have w2 : wrap64 ((n : Int) + 1) = ((n + 1 : Nat) : Int) := by unfold wrap64; omega
    have hs : knownFrom i = knownFrom (i + 1) + (if Knwn (i : Int) then 1 else 0) := by
      unfold knownFrom
      have hlt : i < (List.range 256).length := by simp; omega
      rw [List.drop_eq_getElem_cons hlt, List.countP_cons]
      simp only [List.getElem_range, decide_eq_true_eq]
    have hw : IntKind.u16.wrap (i : Int) = i := by rw [IntKind.wrap_u16]; omega
    have e : k + 1 - (d + 1) = k - d := by omega
    rw [e, hs]
    have h1 := ih k (i + 1) (n + 1) (by omega) (by omega) (by omega)
    have h2 := ih k (i + 1) n (by omega) (by omega) (by omega)
    simp only [fairleadlaw03_InsnFew.l0]
    rw [if_pos (by omega), hw, known_is (by omega) (by omega) k (by omega)]
    simp only [Option.bind_some, w, w2]
    by_cases hk2 : Knwn (i : Int)
    · rw [decide_eq_true hk2, if_pos rfl, if_pos hk2, h1]
      congr 2
      omega
    · rw [decide_eq_false hk2, if_neg (by simp), if_neg hk2, h2]
      rfl
theorem known39 : knownFrom 0 = 39 := by
  unfold knownFrom
  decide +kernel
theorem few_end (a : Int) (h0 : 0 ≤ a) (h1 : a ≤ 65535) (k : Nat) (hk : 10 < k) : fairleadlaw03_InsnFew.l0 (k + 1) a true 39 256 = some true := by
  simp only [fairleadlaw03_InsnFew.l0]
  rw [if_neg (by decide), jumps_is, ends_is, known_is h0 h1 k hk]
  simp only [Option.bind_some]
  have f1 : Jmps a → ¬ Endd a := by unfold Jmps Endd; omega
  have f2 : Jmps a ∨ Endd a → Knwn a := fun h => h.elim (fun h => .inr (.inr (.inl h))) (fun h => .inr (.inr (.inr h)))
  have f3 : Knwn a → a < 256 := by unfold Knwn Sing Reck Jmps Endd; omega
  by_cases j : Jmps a
  · have e := f1 j
    have kn := f2 (.inl j)
    simp [j, e, kn, f3 kn]
  · by_cases e : Endd a
    · have kn := f2 (.inr e)
      simp [j, e, kn, f3 kn]
    · by_cases lt : a < 256
      · simp [j, e, lt]
      · have kn : ¬ Knwn a := fun h => lt (f3 h)
        simp [j, e, lt, kn]
theorem few_all (a : Int) (h0 : 0 ≤ a) (h1 : a ≤ 65535) (k : Nat) (hk : 268 < k) : fairleadlaw03_InsnFew.f k a = some true := by
  obtain ⟨m, hm⟩ : ∃ m, k - 256 = m + 1 := ⟨k - 257, by omega⟩
  have h := few_loop a true 256 k 0 0 rfl (by decide) (by omega)
  rw [known39, hm, Int.natCast_zero] at h
  have e := few_end a h0 h1 m (by omega)
  unfold fairleadlaw03_InsnFew.f
  rw [awake03]
  simp only [Option.bind_some]
  rw [h]
  exact e
theorem InsnFew : fairleadlaw03_InsnFew.Pure := fun a h => ⟨_, few_all a h.1 h.2 (269 + 0) (Nat.lt_succ_self 268)⟩

end Go.Proofs.Ytfkhhmnkmddjhaa.Pure
