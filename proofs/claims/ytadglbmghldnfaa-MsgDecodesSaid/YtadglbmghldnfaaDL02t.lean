/- Layer 2 (pack), plain: what was laid, read. -/
import Derived.Test.YtadglbmghldnfaaDMx0
import Derived.Test.YtadglbmghldnfaaDMx6
import Derived.Test.YtadglbmghldnfaaDMx7
import Derived.Test.YtadglbmghldnfaaDMx9
import Derived.Test.YtadglbmghldnfaaDAid
import Derived.Test.YtadglbmghldnfaaDL02n
import Derived.Test.YtadglbmghldnfaaDL02r
namespace Go.Proofs.Ytadglbmghldnfaa.Pure
open Go Go.RowKit Go.Proofs.Ytadglbmghldnfaa.M Go.Proofs.Ytadglbmghldnfaa.Aid Go.Proofs.YtadglbmghldnfaaW.PrintWords Go.Proofs.YtadglbmghldnfaaW.PrintLast Go.Proofs.YtadglbmghldnfaaW.PrintMore
set_option linter.unusedVariables false
set_option linter.unusedSimpArgs false
-- NEEDS pack_Reader_Num.f pack_Reader_Text.f pack_Reader_End.f pack_Read.f pack_num pack_text
-- IMPORT L02n
-- IMPORT L02r
theorem layt_0 {t : ByteArray} (h : (LAYT t).2 = 0) : (t.size : Int) ≤ 65535 ∧ (LAYT t).1 = pack_bytes t.size 2 ++ bytesOf t := by
  unfold LAYT at h ⊢
  by_cases h1 : (t.size : Int) > 65535
  · rw [if_pos h1] at h; simp at h
  · rw [if_neg h1]; exact ⟨by omega, rfl⟩
theorem layn_0 {n size : Int} (h : (LAYN n size).2 = 0) : 1 ≤ size ∧ size ≤ 8 ∧ n / 256 ^ size.toNat = 0 ∧ (LAYN n size).1 = pack_bytes n size.toNat := by
  unfold LAYN at h ⊢
  by_cases h1 : size < 1 ∨ 8 < size
  · rw [if_pos h1] at h; simp at h
  · rw [if_neg h1] at h ⊢
    by_cases h2 : n / 256 ^ size.toNat = 0
    · rw [if_pos h2]; exact ⟨by omega, by omega, h2, rfl⟩
    · rw [if_neg h2] at h; simp at h
theorem val_size (n : Int) (h0 : 0 ≤ n) (h1 : n ≤ 65535) : VAL (pack_bytes n 2) = n := by
  rw [val_pack n h0, show (256 : Int) ^ 2 = 65536 by decide]; omega
theorem take2_app (n : Int) (R : List Int) : (pack_bytes n 2 ++ R).take 2 = pack_bytes n 2 ∧ (pack_bytes n 2 ++ R).drop 2 = R := by
  have h := pack_bytes_length n 2
  exact ⟨by rw [List.take_append_of_le_length (by omega), List.take_of_length_le (by omega)], by rw [List.drop_append_of_le_length (by omega), List.drop_of_length_le (by omega), List.nil_append]⟩
theorem text_read {t : ByteArray} (h : (LAYT t).2 = 0) (R : List Int) : RTEXT ((LAYT t).1 ++ R) = (t, R, 0) := by
  obtain ⟨h1, h2⟩ := layt_0 h
  have h3 := bytesOf_length t
  have h4 := pack_bytes_length (t.size : Int) 2
  rw [h2, List.append_assoc]
  obtain ⟨e1, e2⟩ := take2_app t.size (bytesOf t ++ R)
  unfold RTEXT
  rw [e1, e2, val_size _ (by omega) h1, if_neg (by rw [List.length_append]; omega), if_pos (by rw [List.length_append, List.length_append]; omega), Int.toNat_natCast, ← h3, List.take_left, List.drop_left, str_bytes]
theorem num_read {n size : Int} (hn : 0 ≤ n) (h : (LAYN n size).2 = 0) (R : List Int) : RNUM ((LAYN n size).1 ++ R) size = (n, R, 0) := by
  obtain ⟨h1, h2, h3, h4⟩ := layn_0 h
  have h5 := pack_bytes_length n size.toNat
  have e1 : VAL (pack_bytes n size.toNat) = n := by rw [val_pack n hn, Int.emod_def, h3]; simp
  unfold RNUM
  rw [h4, if_neg (by omega), if_pos (by rw [List.length_append]; omega)]
  have e2 : (pack_bytes n size.toNat ++ R).take size.toNat = pack_bytes n size.toNat := by rw [List.take_append_of_le_length (by omega), List.take_of_length_le (by omega)]
  have e3 : (pack_bytes n size.toNat ++ R).drop size.toNat = R := by rw [List.drop_append_of_le_length (by omega), List.drop_of_length_le (by omega), List.nil_append]
  rw [e2, e3, e1]
theorem text_back {L : List Int} (h : Byt L) : (RTEXT L).2.2 ≠ 0 ∨ ((LAYT (RTEXT L).1).2 = 0 ∧ (LAYT (RTEXT L).1).1 ++ (RTEXT L).2.1 = L ∧ (RTEXT L).2.2 = 0 ∧ Byt (RTEXT L).2.1) := by
  have hv := val_2 (h.take 2) (by rw [List.length_take]; omega)
  unfold RTEXT
  by_cases h1 : L.length < 2
  · rw [if_pos h1]; exact .inl (by simp)
  · rw [if_neg h1]
    by_cases h2 : VAL (L.take 2) ≤ (L.length : Int) - 2
    · rw [if_pos h2]
      right
      simp only
      have hl : ((L.drop 2).take (VAL (L.take 2)).toNat).length = (VAL (L.take 2)).toNat := by rw [List.length_take, List.length_drop]; omega
      have e1 : ((strOfNums ((L.drop 2).take (VAL (L.take 2)).toNat)).size : Int) = VAL (L.take 2) := by rw [nums_size, hl]; omega
      have e2 : LAYT (strOfNums ((L.drop 2).take (VAL (L.take 2)).toNat)) = (L.take 2 ++ (L.drop 2).take (VAL (L.take 2)).toNat, 0) := by
        unfold LAYT
        rw [e1, if_neg (by omega), byt_nums ((h.drop 2).take _)]
        have := pack_val (L.take 2) (h.take 2)
        rw [List.length_take, Nat.min_eq_left (by omega)] at this
        rw [this]
      rw [e2]
      refine ⟨rfl, ?_, trivial, (h.drop 2).drop _⟩
      simp only
      rw [List.append_assoc, List.take_append_drop, List.take_append_drop]
    · rw [if_neg h2]; exact .inl (by simp)
end Go.Proofs.Ytadglbmghldnfaa.Pure
