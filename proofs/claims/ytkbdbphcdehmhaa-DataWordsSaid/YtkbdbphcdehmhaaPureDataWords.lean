/- The law DataWords, as numbers and lists: what the printed functions say of it is true for every input that the row lets in. -/
import Derived.Test.YtkbdbphcdehmhaaMx6
import Derived.Test.YtkbdbphcdehmhaaAid
import Derived.Test.YtkbdbphcdehmhaaL04
namespace Go.Proofs.Ytkbdbphcdehmhaa.Pure
open Go Go.RowKit Go.Proofs.Ytkbdbphcdehmhaa.M Go.Proofs.Ytkbdbphcdehmhaa.Aid Go.Proofs.YtkbdbphcdehmhaaW.PrintWords Go.Proofs.YtkbdbphcdehmhaaW.PrintLast Go.Proofs.YtkbdbphcdehmhaaW.PrintMore
set_option linter.unusedVariables false
set_option linter.unusedSimpArgs false

-- IMPORT L04
theorem words_loop (a0 a1 a2 a3 a4 a5 a6 a7 a8 : Int) (h : DOk a0 a1 a2 a3 a4 a5 a6 a7 a8) (d : Nat) : ∀ (k i : Nat) (out : List Int), i + d = 16 → d + 30 < k → out = ((WS a0 a1 a2 a3 a4 a5 a6 a7 a8).take i).flatMap b4 →
    fairleadlaw04_DataWords.l0 k true out ((4 * i : Nat) : Int) a0 a1 a2 a3 a4 a5 a6 a7 a8 = some true := by
  induction d with
  | zero =>
    intro k i out hi hk ho
    obtain ⟨k, rfl⟩ : ∃ m, k = m + 1 := ⟨k - 1, by omega⟩
    have hi : i = 16 := by omega
    subst hi
    simp only [fairleadlaw04_DataWords.l0]
    rw [if_neg (by omega), load_is _ _ _ _ _ _ _ _ _ 0 (by decide) k (by omega), load_is _ _ _ _ _ _ _ _ _ 4 (by decide) k (by omega), bytes_is _ _ _ _ _ _ _ _ _ k (by omega), ho, List.take_of_length_le (by rw [ws_len]; omega)]
    simp only [Option.bind_some, if_true]
    simp [WS, rd]
  | succ d ih =>
    intro k i out hi hk ho
    obtain ⟨k, rfl⟩ : ∃ m, k = m + 1 := ⟨k - 1, by omega⟩
    have hl := ws_len a0 a1 a2 a3 a4 a5 a6 a7 a8
    have hol : out.length = 4 * i := by rw [ho, flat_len, List.length_take]; omega
    have hn : (((4 * i : Nat) : Int) + 4) % 4294967296 = ((4 * (i + 1) : Nat) : Int) := by omega
    simp only [fairleadlaw04_DataWords.l0]
    rw [if_pos (by omega), load_is _ _ _ _ _ _ _ _ _ _ (by omega) k (by omega), if_pos ⟨by omega, by omega⟩, show ((4 * i : Nat) : Int) / 4 = (i : Int) from by omega, hn]
    simp only [Option.bind_some, if_true]
    rw [if_pos (by show out.length + 4 < _; omega)]
    refine ih k (i + 1) _ (by omega) (by omega) ?_
    rw [ho, List.take_add_one, List.flatMap_append]
    congr 1
    have : (WS a0 a1 a2 a3 a4 a5 a6 a7 a8)[i]? = some (rd (WS a0 a1 a2 a3 a4 a5 a6 a7 a8) i) := by
      rw [List.getElem?_eq_getElem (by omega)]
      unfold rd
      rw [Int.toNat_natCast, List.getD_eq_getElem?_getD, List.getElem?_eq_getElem (by omega)]
      rfl
    rw [this]
    rfl
theorem DataWords : fairleadlaw04_DataWords.Pure := by
  intro a0 a1 a2 a3 a4 a5 a6 a7 a8 h
  refine ⟨100 + 0, ?_⟩
  generalize hK : 100 + 0 = K
  unfold fairleadlaw04_DataWords.f
  rw [awake04 K (by omega)]
  simp only [Option.bind_some]
  exact words_loop a0 a1 a2 a3 a4 a5 a6 a7 a8 h 16 K 0 [] (by omega) (by omega) rfl

end Go.Proofs.Ytkbdbphcdehmhaa.Pure
