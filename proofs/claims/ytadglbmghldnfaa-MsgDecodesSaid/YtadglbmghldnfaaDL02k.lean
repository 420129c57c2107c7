/- Layer 2 (pack), plain: the document's taking. -/
import Derived.Test.YtadglbmghldnfaaDMx0
import Derived.Test.YtadglbmghldnfaaDMx6
import Derived.Test.YtadglbmghldnfaaDMx7
import Derived.Test.YtadglbmghldnfaaDMx17
import Derived.Test.YtadglbmghldnfaaDMx19
import Derived.Test.YtadglbmghldnfaaDAid
import Derived.Test.YtadglbmghldnfaaDL02n
import Derived.Test.YtadglbmghldnfaaDL02r
namespace Go.Proofs.Ytadglbmghldnfaa.Pure
open Go Go.RowKit Go.Proofs.Ytadglbmghldnfaa.M Go.Proofs.Ytadglbmghldnfaa.Aid Go.Proofs.YtadglbmghldnfaaW.PrintWords Go.Proofs.YtadglbmghldnfaaW.PrintLast Go.Proofs.YtadglbmghldnfaaW.PrintMore
set_option linter.unusedVariables false
set_option linter.unusedSimpArgs false
-- NEEDS pack_Reader_Num.f fairleadref02_Take.f fairleadref02_TakeText.f pack_num
-- IMPORT L02n
-- IMPORT L02r
theorem rd_tk (L : List Int) (i : Nat) (h : i < L.length) : L.take (i + 1) = L.take i ++ [rd L i] := by
  rw [List.take_add_one, List.getElem?_eq_getElem h]
  simp [rd, List.getD_eq_getElem?_getD, List.getElem?_eq_getElem h]
theorem rd_mem2 (L : List Int) (i : Nat) (h : i < L.length) : rd L i ∈ L := by
  have : rd L i ∈ L.take (i + 1) := by rw [rd_tk L i h]; simp
  exact List.mem_of_mem_take this
theorem take_loop (L : List Int) (hb : Byt L) (N : Nat) (hN : N ≤ 8) (hL : N ≤ L.length) (d : Nat) : ∀ (k i : Nat), i + d = N → d < k →
    fairleadref02_Take.l0 k L N (VAL (L.take i)) i = some (VAL (L.take N), 0) := by
  induction d with
  | zero =>
    intro k i hi hk
    obtain ⟨k, rfl⟩ : ∃ m, k = m + 1 := ⟨k - 1, by omega⟩
    obtain rfl : i = N := by omega
    simp only [fairleadref02_Take.l0]
    rw [if_neg (by omega)]
  | succ d ih =>
    intro k i hi hk
    obtain ⟨k, rfl⟩ : ∃ m, k = m + 1 := ⟨k - 1, by omega⟩
    have w : wrap64 ((i : Int) + 1) = ((i + 1 : Nat) : Int) := by unfold wrap64; omega
    simp only [fairleadref02_Take.l0, w]
    clear w
    have hx := hb _ (rd_mem2 L i (by omega))
    have hv := val_u64 (hb.take (i + 1)) (by rw [List.length_take]; omega)
    have e : VAL (L.take (i + 1)) = VAL (L.take i) * 256 + rd L i := by rw [rd_tk L i (by omega)]; unfold VAL; rw [List.foldl_append]; rfl
    have hv0 := val_in (hb.take i)
    rw [if_pos (by omega), if_pos (by omega), if_pos (by omega), u64_id2 (x := VAL (L.take i) * 256) (by omega) (by omega), u64_id2 (x := rd L i) (by omega) (by omega), u64_id2 (by omega) (by omega), ← e]
    exact ih k (i + 1) (by omega) (by omega)
def TK (L : List Int) (size : Int) : Int × Int := if size < 1 ∨ 8 < size then (0, 1) else if (L.length : Int) < size then (0, 2) else (VAL (L.take size.toNat), 0)
theorem rtake_is (L : List Int) (hb : Byt L) (size : Int) (k : Nat) (hk : 12 ≤ k) : fairleadref02_Take.f k L size = some (TK L size) := by
  obtain ⟨k, rfl⟩ : ∃ m, k = m + 1 := ⟨k - 1, by omega⟩
  unfold fairleadref02_Take.f TK
  by_cases h1 : size < 1
  · rw [if_pos h1, if_pos (.inl h1)]
    simp only [fairleadref02_Take.j0, if_true]
  · rw [if_neg h1]
    by_cases h2 : 8 < size
    · rw [if_pos (.inr h2), decide_eq_true (show size > 8 from h2)]
      simp only [fairleadref02_Take.j0, if_true]
    · rw [if_neg (by omega), decide_eq_false (show ¬ size > 8 from h2)]
      simp only [fairleadref02_Take.j0]
      rw [if_neg (by decide)]
      by_cases h3 : (L.length : Int) < size
      · rw [if_pos h3, if_pos h3]
      · rw [if_neg h3, if_neg h3]
        obtain ⟨N, rfl⟩ := Int.eq_ofNat_of_zero_le (show 0 ≤ size by omega)
        exact take_loop L hb N (by omega) (by omega) N k 0 (by omega) (by omega)
def TT (L : List Int) : ByteArray × Int × Int := if L.length < 2 then (⟨#[]⟩, 0, 2) else if VAL (L.take 2) ≤ (L.length : Int) - 2 then (strOfNums ((L.drop 2).take (VAL (L.take 2)).toNat), 2 + VAL (L.take 2), 0) else (⟨#[]⟩, 0, 2)
theorem rtaketext_is (L : List Int) (hb : Byt L) (hl : L.length ≤ 100000) (k : Nat) (hk : 12 ≤ k) : fairleadref02_TakeText.f k L = some (TT L) := by
  have hv := val_2 (hb.take 2) (by rw [List.length_take]; omega)
  unfold fairleadref02_TakeText.f TT
  rw [rtake_is L hb 2 k hk, Option.bind_some]
  by_cases h1 : L.length < 2
  · have e : TK L 2 = (0, 2) := by unfold TK; rw [if_neg (by omega), if_pos (by omega)]
    rw [e, if_neg (by simp), if_pos h1]
  · have e : TK L 2 = (VAL (L.take 2), 0) := by unfold TK; rw [if_neg (by omega), if_neg (by omega)]; rfl
    rw [e, if_neg h1, if_pos rfl]
    simp only
    rw [ w64_id2 (x := (L.length : Int) - 2) (by omega) (by omega), u64_id2 (x := (L.length : Int) - 2) (by omega) (by omega)]
    by_cases h2 : VAL (L.take 2) ≤ (L.length : Int) - 2
    · rw [if_neg (by omega), if_pos h2, u64_id2 (by omega) (by omega), if_pos (by omega), if_pos (by omega), w64_id2 (x := VAL (L.take 2)) (by omega) (by omega), w64_id2 (by omega) (by omega), List.drop_take, show (2 + VAL (L.take 2)).toNat - 2 = (VAL (L.take 2)).toNat by omega]
    · rw [if_pos (by omega), if_neg h2]
end Go.Proofs.Ytadglbmghldnfaa.Pure
