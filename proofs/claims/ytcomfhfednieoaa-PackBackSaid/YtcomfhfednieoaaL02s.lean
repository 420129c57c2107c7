/- Layer 2 (pack), plain: items laid and read; the document's own taking. -/
import Derived.Test.YtcomfhfednieoaaMx0
import Derived.Test.YtcomfhfednieoaaMx2
import Derived.Test.YtcomfhfednieoaaMx5
import Derived.Test.YtcomfhfednieoaaMx7
import Derived.Test.YtcomfhfednieoaaMx8
import Derived.Test.YtcomfhfednieoaaMx9
import Derived.Test.YtcomfhfednieoaaMx10
import Derived.Test.YtcomfhfednieoaaAid
import Derived.Test.YtcomfhfednieoaaL02
import Derived.Test.YtcomfhfednieoaaL02r
namespace Go.Proofs.Ytcomfhfednieoaa.Pure
open Go Go.RowKit Go.Proofs.Ytcomfhfednieoaa.M Go.Proofs.Ytcomfhfednieoaa.Aid Go.Proofs.YtcomfhfednieoaaW.PrintWords Go.Proofs.YtcomfhfednieoaaW.PrintLast Go.Proofs.YtcomfhfednieoaaW.PrintMore
set_option linter.unusedVariables false
set_option linter.unusedSimpArgs false

-- NEEDS pack_Reader_Num.f pack_Reader_Text.f pack_Reader_End.f pack_Read.f fairleadlaw02_laid.f fairleadref02_Take.f fairleadref02_TakeText.f
-- IMPORT L02
-- IMPORT L02r

theorem alli_cons {x : S32} {r : List S32} (h : (ALLI (x :: r)).2 = 0) : (LAYI x).2 = 0 ∧ (ALLI r).2 = 0 ∧ (ALLI (x :: r)).1 = (LAYI x).1 ++ (ALLI r).1 := by
  simp only [ALLI] at h ⊢
  by_cases h1 : (LAYI x).2 = 0
  · rw [if_pos h1] at h ⊢
    simp only at h
    exact ⟨h1, h, by rw [if_pos h]⟩
  · rw [if_neg h1] at h
    exact absurd h h1
theorem alli_snoc (x : S32) (hx : (LAYI x).2 = 0) : ∀ l : List S32, (ALLI l).2 = 0 → ALLI (l ++ [x]) = ((ALLI l).1 ++ (LAYI x).1, 0)
  | [], _ => by simp [ALLI, hx]
  | y :: r, h => by
    obtain ⟨h1, h2, h3⟩ := alli_cons h
    rw [h3, List.cons_append, ALLI, if_pos h1, alli_snoc x hx r h2]
    simp
theorem byt_laid (x : S32) : Byt (LAYI x).1 := by
  have h0 : Byt [] := fun x hx => by simp at hx
  unfold LAYI
  split
  · unfold LAYT
    split
    · exact h0
    · exact (byt_pack _ _).app (byt_str _)
  · unfold LAYN
    split
    · exact h0
    · split
      · exact byt_pack _ _
      · exact h0
theorem byt_all : ∀ l : List S32, Byt (ALLI l).1
  | [] => fun x hx => by simp [ALLI] at hx
  | x :: r => by
    simp only [ALLI]
    split
    · simp only; split
      · exact (byt_laid x).app (byt_all r)
      · exact fun x hx => by simp at hx
    · exact fun x hx => by simp at hx
theorem all_len2 : ∀ l : List S32, (ALLI l).1.length ≤ 65537 * l.length
  | [] => by simp [ALLI]
  | x :: r => by
    have h1 := layi_len x
    have h2 := all_len2 r
    simp only [ALLI]
    split
    · simp only; split
      · rw [List.length_append, List.length_cons]; omega
      · simp
    · simp
theorem layt_0 {t : ByteArray} (h : (LAYT t).2 = 0) : (t.size : Int) ≤ 65535 ∧ (LAYT t).1 = pack_bytes t.size 2 ++ bytesOf t := by
  unfold LAYT at h ⊢
  by_cases h1 : (t.size : Int) > 65535
  · rw [if_pos h1] at h; simp at h
  · rw [if_neg h1]; exact ⟨by omega, rfl⟩
theorem layn_0 {n size : Int} (h : (LAYN n size).2 = 0) : 1 ≤ size ∧ size ≤ 8 ∧ n / 256 ^ size.toNat = 0 ∧ (LAYN n size).1 = pack_bytes n size.toNat := by
  unfold LAYN at h ⊢
  by_cases h1 : size < 1 ∨ 8 < size
  · rw [if_pos h1] at h; simp at h
  · rw [if_neg h1] at h ⊢
    by_cases h2 : n / 256 ^ size.toNat = 0
    · rw [if_pos h2]; exact ⟨by omega, by omega, h2, rfl⟩
    · rw [if_neg h2] at h; simp at h
theorem val_size (n : Int) (h0 : 0 ≤ n) (h1 : n ≤ 65535) : VAL (pack_bytes n 2) = n := by
  rw [val_pack n h0, show (256 : Int) ^ 2 = 65536 by decide]; omega
theorem take2_app (n : Int) (R : List Int) : (pack_bytes n 2 ++ R).take 2 = pack_bytes n 2 ∧ (pack_bytes n 2 ++ R).drop 2 = R := by
  have h := pack_bytes_length n 2
  exact ⟨by rw [List.take_append_of_le_length (by omega), List.take_of_length_le (by omega)], by rw [List.drop_append_of_le_length (by omega), List.drop_of_length_le (by omega), List.nil_append]⟩
theorem text_read {t : ByteArray} (h : (LAYT t).2 = 0) (R : List Int) : RTEXT ((LAYT t).1 ++ R) = (t, R, 0) := by
  obtain ⟨h1, h2⟩ := layt_0 h
  have h3 := bytesOf_length t
  have h4 := pack_bytes_length (t.size : Int) 2
  rw [h2, List.append_assoc]
  obtain ⟨e1, e2⟩ := take2_app t.size (bytesOf t ++ R)
  unfold RTEXT
  rw [e1, e2, val_size _ (by omega) h1, if_neg (by rw [List.length_append]; omega), if_pos (by rw [List.length_append, List.length_append]; omega), Int.toNat_natCast, ← h3, List.take_left, List.drop_left, str_bytes]
theorem text_cut {t : ByteArray} (h : (LAYT t).2 = 0) (c : Nat) (hc : c < (LAYT t).1.length) : (RTEXT ((LAYT t).1.take c)).2.2 = 2 := by
  obtain ⟨h1, h2⟩ := layt_0 h
  have h3 := bytesOf_length t
  have h4 := pack_bytes_length (t.size : Int) 2
  have hl : ((LAYT t).1.take c).length = c := by rw [List.length_take]; omega
  unfold RTEXT
  by_cases hc2 : c < 2
  · rw [if_pos (by omega)]
  · have e1 : ((LAYT t).1.take c).take 2 = pack_bytes t.size 2 := by rw [List.take_take, Nat.min_eq_left (by omega), h2]; exact (take2_app _ _).1
    rw [h2, List.length_append] at hc
    rw [if_neg (by omega), e1, val_size _ (by omega) h1, if_neg (by omega)]
theorem num_read {n size : Int} (hn : 0 ≤ n) (h : (LAYN n size).2 = 0) (R : List Int) : RNUM ((LAYN n size).1 ++ R) size = (n, R, 0) := by
  obtain ⟨h1, h2, h3, h4⟩ := layn_0 h
  have h5 := pack_bytes_length n size.toNat
  have e1 : VAL (pack_bytes n size.toNat) = n := by rw [val_pack n hn, Int.emod_def, h3]; simp
  unfold RNUM
  rw [h4, if_neg (by omega), if_pos (by rw [List.length_append]; omega)]
  have e2 : (pack_bytes n size.toNat ++ R).take size.toNat = pack_bytes n size.toNat := by rw [List.take_append_of_le_length (by omega), List.take_of_length_le (by omega)]
  have e3 : (pack_bytes n size.toNat ++ R).drop size.toNat = R := by rw [List.drop_append_of_le_length (by omega), List.drop_of_length_le (by omega), List.nil_append]
  rw [e2, e3, e1]
theorem num_cut {n size : Int} (h : (LAYN n size).2 = 0) (c : Nat) (hc : c < (LAYN n size).1.length) : (RNUM ((LAYN n size).1.take c) size).2.2 = 2 := by
  obtain ⟨h1, h2, h3, h4⟩ := layn_0 h
  have h5 := pack_bytes_length n size.toNat
  have hl : ((LAYN n size).1.take c).length = c := by rw [List.length_take]; omega
  rw [h4] at hc hl
  unfold RNUM
  rw [h4, if_neg (by omega), if_neg (by omega)]
theorem text_back {L : List Int} (h : Byt L) : (RTEXT L).2.2 ≠ 0 ∨ ((LAYT (RTEXT L).1).2 = 0 ∧ (LAYT (RTEXT L).1).1 ++ (RTEXT L).2.1 = L ∧ (RTEXT L).2.2 = 0 ∧ Byt (RTEXT L).2.1) := by
  have hv := val_2 (h.take 2) (by rw [List.length_take]; omega)
  unfold RTEXT
  by_cases h1 : L.length < 2
  · rw [if_pos h1]; exact .inl (by simp)
  · rw [if_neg h1]
    by_cases h2 : VAL (L.take 2) ≤ (L.length : Int) - 2
    · rw [if_pos h2]
      right
      simp only
      have hl : ((L.drop 2).take (VAL (L.take 2)).toNat).length = (VAL (L.take 2)).toNat := by rw [List.length_take, List.length_drop]; omega
      have e1 : ((strOfNums ((L.drop 2).take (VAL (L.take 2)).toNat)).size : Int) = VAL (L.take 2) := by rw [nums_size, hl]; omega
      have e2 : LAYT (strOfNums ((L.drop 2).take (VAL (L.take 2)).toNat)) = (L.take 2 ++ (L.drop 2).take (VAL (L.take 2)).toNat, 0) := by
        unfold LAYT
        rw [e1, if_neg (by omega), byt_nums ((h.drop 2).take _)]
        have := pack_val (L.take 2) (h.take 2)
        rw [List.length_take, Nat.min_eq_left (by omega)] at this
        rw [this]
      rw [e2]
      refine ⟨rfl, ?_, trivial, (h.drop 2).drop _⟩
      simp only
      rw [List.append_assoc, List.take_append_drop, List.take_append_drop]
    · rw [if_neg h2]; exact .inl (by simp)
theorem num_back {L : List Int} (h : Byt L) (size : Int) : (RNUM L size).2.2 ≠ 0 ∨ ((LAYN (RNUM L size).1 size).2 = 0 ∧ (LAYN (RNUM L size).1 size).1 ++ (RNUM L size).2.1 = L ∧ (RNUM L size).2.2 = 0 ∧ Byt (RNUM L size).2.1 ∧ 0 ≤ (RNUM L size).1 ∧ (RNUM L size).1 ≤ 18446744073709551615) := by
  unfold RNUM
  by_cases h1 : size < 1 ∨ 8 < size
  · rw [if_pos h1]; exact .inl (by simp)
  · rw [if_neg h1]
    by_cases h2 : size ≤ (L.length : Int)
    · rw [if_pos h2]
      right
      simp only
      have hl : (L.take size.toNat).length = size.toNat := by rw [List.length_take]; omega
      have hv := val_in (h.take size.toNat)
      have hu := val_u64 (h.take size.toNat) (by omega)
      have hp := pack_val (L.take size.toNat) (h.take _)
      rw [hl] at hv hp
      have e2 : LAYN (VAL (L.take size.toNat)) size = (L.take size.toNat, 0) := by
        unfold LAYN
        rw [if_neg h1, if_pos (Int.ediv_eq_zero_of_lt hv.1 hv.2), hp]
      rw [e2]
      exact ⟨rfl, List.take_append_drop _ _, trivial, h.drop _, hu.1, hu.2⟩
    · rw [if_neg h2]; exact .inl (by simp)
/-! ### The document's own -/
theorem rd_tk (L : List Int) (i : Nat) (h : i < L.length) : L.take (i + 1) = L.take i ++ [rd L i] := by
  rw [List.take_add_one, List.getElem?_eq_getElem h]
  simp [rd, List.getD_eq_getElem?_getD, List.getElem?_eq_getElem h]
theorem rd_mem2 (L : List Int) (i : Nat) (h : i < L.length) : rd L i ∈ L := by
  have : rd L i ∈ L.take (i + 1) := by rw [rd_tk L i h]; simp
  exact List.mem_of_mem_take this
theorem take_loop (L : List Int) (hb : Byt L) (N : Nat) (hN : N ≤ 8) (hL : N ≤ L.length) (d : Nat) : ∀ (k i : Nat), i + d = N → d < k →
    fairleadref02_Take.l0 k L N (VAL (L.take i)) i = some (VAL (L.take N), 0) := by
  induction d with
  | zero =>
    intro k i hi hk
    obtain ⟨k, rfl⟩ : ∃ m, k = m + 1 := ⟨k - 1, by omega⟩
    obtain rfl : i = N := by omega
    simp only [fairleadref02_Take.l0]
    rw [if_neg (by omega)]
  | succ d ih =>
    intro k i hi hk
    obtain ⟨k, rfl⟩ : ∃ m, k = m + 1 := ⟨k - 1, by omega⟩
    have w : wrap64 ((i : Int) + 1) = ((i + 1 : Nat) : Int) := by unfold wrap64; omega
    simp only [fairleadref02_Take.l0, w]
    clear w
    have hx := hb _ (rd_mem2 L i (by omega))
    have hv := val_u64 (hb.take (i + 1)) (by rw [List.length_take]; omega)
    have e : VAL (L.take (i + 1)) = VAL (L.take i) * 256 + rd L i := by rw [rd_tk L i (by omega)]; unfold VAL; rw [List.foldl_append]; rfl
    have hv0 := val_in (hb.take i)
    rw [if_pos (by omega), if_pos (by omega), if_pos (by omega), u64_id2 (x := VAL (L.take i) * 256) (by omega) (by omega), u64_id2 (x := rd L i) (by omega) (by omega), u64_id2 (by omega) (by omega), ← e]
    exact ih k (i + 1) (by omega) (by omega)
def TK (L : List Int) (size : Int) : Int × Int := if size < 1 ∨ 8 < size then (0, 1) else if (L.length : Int) < size then (0, 2) else (VAL (L.take size.toNat), 0)
theorem rtake_is (L : List Int) (hb : Byt L) (size : Int) (k : Nat) (hk : 12 ≤ k) : fairleadref02_Take.f k L size = some (TK L size) := by
  obtain ⟨k, rfl⟩ : ∃ m, k = m + 1 := ⟨k - 1, by omega⟩
  unfold fairleadref02_Take.f TK
  by_cases h1 : size < 1
  · rw [if_pos h1, if_pos (.inl h1)]
    simp only [fairleadref02_Take.j0, if_true]
  · rw [if_neg h1]
    by_cases h2 : 8 < size
    · rw [if_pos (.inr h2), decide_eq_true (show size > 8 from h2)]
      simp only [fairleadref02_Take.j0, if_true]
    · rw [if_neg (by omega), decide_eq_false (show ¬ size > 8 from h2)]
      simp only [fairleadref02_Take.j0]
      rw [if_neg (by decide)]
      by_cases h3 : (L.length : Int) < size
      · rw [if_pos h3, if_pos h3]
      · rw [if_neg h3, if_neg h3]
        obtain ⟨N, rfl⟩ := Int.eq_ofNat_of_zero_le (show 0 ≤ size by omega)
        exact take_loop L hb N (by omega) (by omega) N k 0 (by omega) (by omega)
def TT (L : List Int) : ByteArray × Int × Int := if L.length < 2 then (⟨#[]⟩, 0, 2) else if VAL (L.take 2) ≤ (L.length : Int) - 2 then (strOfNums ((L.drop 2).take (VAL (L.take 2)).toNat), 2 + VAL (L.take 2), 0) else (⟨#[]⟩, 0, 2)
theorem rtaketext_is (L : List Int) (hb : Byt L) (hl : L.length ≤ 100000) (k : Nat) (hk : 12 ≤ k) : fairleadref02_TakeText.f k L = some (TT L) := by
  have hv := val_2 (hb.take 2) (by rw [List.length_take]; omega)
  unfold fairleadref02_TakeText.f TT
  rw [rtake_is L hb 2 k hk, Option.bind_some]
  by_cases h1 : L.length < 2
  · have e : TK L 2 = (0, 2) := by unfold TK; rw [if_neg (by omega), if_pos (by omega)]
    rw [e, if_neg (by simp), if_pos h1]
  · have e : TK L 2 = (VAL (L.take 2), 0) := by unfold TK; rw [if_neg (by omega), if_neg (by omega)]; rfl
    rw [e, if_neg h1, if_pos rfl]
    simp only
    rw [ w64_id2 (x := (L.length : Int) - 2) (by omega) (by omega), u64_id2 (x := (L.length : Int) - 2) (by omega) (by omega)]
    by_cases h2 : VAL (L.take 2) ≤ (L.length : Int) - 2
    · rw [if_neg (by omega), if_pos h2, u64_id2 (by omega) (by omega), if_pos (by omega), if_pos (by omega), w64_id2 (x := VAL (L.take 2)) (by omega) (by omega), w64_id2 (by omega) (by omega), List.drop_take, show (2 + VAL (L.take 2)).toNat - 2 = (VAL (L.take 2)).toNat by omega]
    · rw [if_pos (by omega), if_neg h2]
end Go.Proofs.Ytcomfhfednieoaa.Pure
